-- Made by a program of this session (wip/xp/xp.py), over the print's words.
import Derived.Test.YtpkmhepoeefgkaaDoorPr0
import Derived.Test.YtpkmhepoeefgkaaDoorPr2
import Derived.Test.YtpkmhepoeefgkaaDoorG4
import Derived.Test.YtpkmhepoeefgkaaDoorG5
import Derived.Test.YtpkmhepoeefgkaaDoorPr3a
namespace Go.Proofs.YtpkmhepoeefgkaaDoor.Pr
open Go.RowKit Go.Proofs.YtpkmhepoeefgkaaDoorW.PrintWords Go.Proofs.YtpkmhepoeefgkaaDoorW.PrintLast Go.Proofs.YtpkmhepoeefgkaaDoorW.PrintMore
attribute [local go_sem] max2_int min2_int max_two min_two max_three min_three max_four min_four   -- for this text's walks alone
set_option linter.unusedVariables false
set_option linter.unusedSimpArgs false
set_option maxHeartbeats 8000000 in
set_option maxRecDepth 100000 in
theorem note_Read.calls_not (k : Nat) (a0 : ByteArray) (r1 : Int) (r2 : Int) (r3 : Int) (r4 : Int) (r5 : Int) (r6 : Int) (r7 : Int) (r8 : Int) (w : World) (hM_ : Aside0 (LaidW w)) (hr_ : r8 ≠ 0) (h : note_Read.f k a0 = some (r1, r2, r3, r4, r5, r6, r7, r8)) :
  Calls Tryd.prog 11 #[.string a0] w fun e w' => e = .returned (.tuple #[.agg #[.int .i64 r1, .int .u64 r2, .int .i64 r3, .int .i64 r4, .int .i64 r5, .int .i64 r6, .int .i64 r7], .int .i64 r8]) ∧ Below w.heap.size w w' := by
 have hu24 := Tryd.underlying24
 have HB := Aside0.mk (Below.refl w.heap.size w)
 have H : ((strings_Split.f a0 (⟨#[32]⟩ : ByteArray)).bind fun t119 => (if (t119.length : Int) = 7 then (if 1 < (t119.length : Int) then ((octet_Digits.f k (rdOf ByteArray.empty t119 1)).bind fun bt123 => (if 0 < (t119.length : Int) then ((note_number.f k (rdOf ByteArray.empty t119 0)).bind fun t126 => (if 2 < (t119.length : Int) then ((note_kind.f k (rdOf ByteArray.empty t119 2)).bind fun t128 => (if 3 < (t119.length : Int) then ((note_number.f k (rdOf ByteArray.empty t119 3)).bind fun t130 => (if 4 < (t119.length : Int) then ((note_number.f k (rdOf ByteArray.empty t119 4)).bind fun t132 => (if 5 < (t119.length : Int) then ((note_number.f k (rdOf ByteArray.empty t119 5)).bind fun t134 => (if 6 < (t119.length : Int) then ((note_number.f k (rdOf ByteArray.empty t119 6)).bind fun t136 => (if a0.toList = ([] : List UInt8) then none else ((note_Show.f k t126 bt123.1 t128 t130 t132 t134 t136).bind fun t138 => (if t138.toList = a0.toList then (some (t126, bt123.1, t128, t130, t132, t134, t136, 0)) else (some (0, 0, 0, 0, 0, 0, 0, 3)))))) else (none))) else (none))) else (none))) else (none))) else (none))) else (none))) else (none)) else (some (0, 0, 0, 0, 0, 0, 0, 3)))) = some (r1, r2, r3, r4, r5, r6, r7, r8) := h
 clear h
 replace H := Option.bind_eq_some_iff.mp H
 obtain ⟨t119, A20, H⟩ := H
 replace H : (if (t119.length : Int) = 7 then (if 1 < (t119.length : Int) then ((octet_Digits.f k (rdOf ByteArray.empty t119 1)).bind fun bt123 => (if 0 < (t119.length : Int) then ((note_number.f k (rdOf ByteArray.empty t119 0)).bind fun t126 => (if 2 < (t119.length : Int) then ((note_kind.f k (rdOf ByteArray.empty t119 2)).bind fun t128 => (if 3 < (t119.length : Int) then ((note_number.f k (rdOf ByteArray.empty t119 3)).bind fun t130 => (if 4 < (t119.length : Int) then ((note_number.f k (rdOf ByteArray.empty t119 4)).bind fun t132 => (if 5 < (t119.length : Int) then ((note_number.f k (rdOf ByteArray.empty t119 5)).bind fun t134 => (if 6 < (t119.length : Int) then ((note_number.f k (rdOf ByteArray.empty t119 6)).bind fun t136 => (if a0.toList = ([] : List UInt8) then none else ((note_Show.f k t126 bt123.1 t128 t130 t132 t134 t136).bind fun t138 => (if t138.toList = a0.toList then (some (t126, bt123.1, t128, t130, t132, t134, t136, 0)) else (some (0, 0, 0, 0, 0, 0, 0, 3)))))) else (none))) else (none))) else (none))) else (none))) else (none))) else (none))) else (none)) else (some (0, 0, 0, 0, 0, 0, 0, 3))) = some (r1, r2, r3, r4, r5, r6, r7, r8) := H
 have A2 := Aside0.mk A20
 clear A20
 by_cases c3 : (t119.length : Int) = 7
 ·rw [if_pos c3] at H
  have c3b0 : ((t119.length : Int) == 7) = true := beq_iff_eq.mpr c3
  have c3b1 : ((t119.length : Int) != 7) = false := bne_eq_false_iff_eq.mpr c3
  clear c3
  by_cases c4 : 1 < (t119.length : Int)
  ·rw [if_pos c4] at H
   have c4b0 : decide (1 < (t119.length : Int)) = true := decide_eq_true c4
   have c4b1 : decide (1 < t119.length) = true := decide_eq_true (by omega)
   clear c4
   replace H := Option.bind_eq_some_iff.mp H
   obtain ⟨⟨t123, t124⟩, A50, H⟩ := H
   replace H : (if 0 < (t119.length : Int) then ((note_number.f k (rdOf ByteArray.empty t119 0)).bind fun t126 => (if 2 < (t119.length : Int) then ((note_kind.f k (rdOf ByteArray.empty t119 2)).bind fun t128 => (if 3 < (t119.length : Int) then ((note_number.f k (rdOf ByteArray.empty t119 3)).bind fun t130 => (if 4 < (t119.length : Int) then ((note_number.f k (rdOf ByteArray.empty t119 4)).bind fun t132 => (if 5 < (t119.length : Int) then ((note_number.f k (rdOf ByteArray.empty t119 5)).bind fun t134 => (if 6 < (t119.length : Int) then ((note_number.f k (rdOf ByteArray.empty t119 6)).bind fun t136 => (if a0.toList = ([] : List UInt8) then none else ((note_Show.f k t126 t123 t128 t130 t132 t134 t136).bind fun t138 => (if t138.toList = a0.toList then (some (t126, t123, t128, t130, t132, t134, t136, 0)) else (some (0, 0, 0, 0, 0, 0, 0, 3)))))) else (none))) else (none))) else (none))) else (none))) else (none))) else (none)) = some (r1, r2, r3, r4, r5, r6, r7, r8) := H
   have A5 := Aside0.mk A50
   clear A50
   by_cases c6 : 0 < (t119.length : Int)
   ·rw [if_pos c6] at H
    have c6b0 : decide (0 < (t119.length : Int)) = true := decide_eq_true c6
    have c6b1 : decide (0 < t119.length) = true := decide_eq_true (by omega)
    clear c6
    replace H := Option.bind_eq_some_iff.mp H
    obtain ⟨t126, A70, H⟩ := H
    replace H : (if 2 < (t119.length : Int) then ((note_kind.f k (rdOf ByteArray.empty t119 2)).bind fun t128 => (if 3 < (t119.length : Int) then ((note_number.f k (rdOf ByteArray.empty t119 3)).bind fun t130 => (if 4 < (t119.length : Int) then ((note_number.f k (rdOf ByteArray.empty t119 4)).bind fun t132 => (if 5 < (t119.length : Int) then ((note_number.f k (rdOf ByteArray.empty t119 5)).bind fun t134 => (if 6 < (t119.length : Int) then ((note_number.f k (rdOf ByteArray.empty t119 6)).bind fun t136 => (if a0.toList = ([] : List UInt8) then none else ((note_Show.f k t126 t123 t128 t130 t132 t134 t136).bind fun t138 => (if t138.toList = a0.toList then (some (t126, t123, t128, t130, t132, t134, t136, 0)) else (some (0, 0, 0, 0, 0, 0, 0, 3)))))) else (none))) else (none))) else (none))) else (none))) else (none)) = some (r1, r2, r3, r4, r5, r6, r7, r8) := H
    have A7 := Aside0.mk A70
    clear A70
    by_cases c8 : 2 < (t119.length : Int)
    ·rw [if_pos c8] at H
     have c8b0 : decide (2 < (t119.length : Int)) = true := decide_eq_true c8
     have c8b1 : decide (2 < t119.length) = true := decide_eq_true (by omega)
     clear c8
     replace H := Option.bind_eq_some_iff.mp H
     obtain ⟨t128, A90, H⟩ := H
     replace H : (if 3 < (t119.length : Int) then ((note_number.f k (rdOf ByteArray.empty t119 3)).bind fun t130 => (if 4 < (t119.length : Int) then ((note_number.f k (rdOf ByteArray.empty t119 4)).bind fun t132 => (if 5 < (t119.length : Int) then ((note_number.f k (rdOf ByteArray.empty t119 5)).bind fun t134 => (if 6 < (t119.length : Int) then ((note_number.f k (rdOf ByteArray.empty t119 6)).bind fun t136 => (if a0.toList = ([] : List UInt8) then none else ((note_Show.f k t126 t123 t128 t130 t132 t134 t136).bind fun t138 => (if t138.toList = a0.toList then (some (t126, t123, t128, t130, t132, t134, t136, 0)) else (some (0, 0, 0, 0, 0, 0, 0, 3)))))) else (none))) else (none))) else (none))) else (none)) = some (r1, r2, r3, r4, r5, r6, r7, r8) := H
     have A9 := Aside0.mk A90
     clear A90
     by_cases c10 : 3 < (t119.length : Int)
     ·rw [if_pos c10] at H
      have c10b0 : decide (3 < (t119.length : Int)) = true := decide_eq_true c10
      have c10b1 : decide (3 < t119.length) = true := decide_eq_true (by omega)
      clear c10
      replace H := Option.bind_eq_some_iff.mp H
      obtain ⟨t130, A110, H⟩ := H
      replace H : (if 4 < (t119.length : Int) then ((note_number.f k (rdOf ByteArray.empty t119 4)).bind fun t132 => (if 5 < (t119.length : Int) then ((note_number.f k (rdOf ByteArray.empty t119 5)).bind fun t134 => (if 6 < (t119.length : Int) then ((note_number.f k (rdOf ByteArray.empty t119 6)).bind fun t136 => (if a0.toList = ([] : List UInt8) then none else ((note_Show.f k t126 t123 t128 t130 t132 t134 t136).bind fun t138 => (if t138.toList = a0.toList then (some (t126, t123, t128, t130, t132, t134, t136, 0)) else (some (0, 0, 0, 0, 0, 0, 0, 3)))))) else (none))) else (none))) else (none)) = some (r1, r2, r3, r4, r5, r6, r7, r8) := H
      have A11 := Aside0.mk A110
      clear A110
      by_cases c12 : 4 < (t119.length : Int)
      ·rw [if_pos c12] at H
       have c12b0 : decide (4 < (t119.length : Int)) = true := decide_eq_true c12
       have c12b1 : decide (4 < t119.length) = true := decide_eq_true (by omega)
       clear c12
       replace H := Option.bind_eq_some_iff.mp H
       obtain ⟨t132, A130, H⟩ := H
       replace H : (if 5 < (t119.length : Int) then ((note_number.f k (rdOf ByteArray.empty t119 5)).bind fun t134 => (if 6 < (t119.length : Int) then ((note_number.f k (rdOf ByteArray.empty t119 6)).bind fun t136 => (if a0.toList = ([] : List UInt8) then none else ((note_Show.f k t126 t123 t128 t130 t132 t134 t136).bind fun t138 => (if t138.toList = a0.toList then (some (t126, t123, t128, t130, t132, t134, t136, 0)) else (some (0, 0, 0, 0, 0, 0, 0, 3)))))) else (none))) else (none)) = some (r1, r2, r3, r4, r5, r6, r7, r8) := H
       have A13 := Aside0.mk A130
       clear A130
       by_cases c14 : 5 < (t119.length : Int)
       ·rw [if_pos c14] at H
        have c14b0 : decide (5 < (t119.length : Int)) = true := decide_eq_true c14
        have c14b1 : decide (5 < t119.length) = true := decide_eq_true (by omega)
        clear c14
        replace H := Option.bind_eq_some_iff.mp H
        obtain ⟨t134, A150, H⟩ := H
        replace H : (if 6 < (t119.length : Int) then ((note_number.f k (rdOf ByteArray.empty t119 6)).bind fun t136 => (if a0.toList = ([] : List UInt8) then none else ((note_Show.f k t126 t123 t128 t130 t132 t134 t136).bind fun t138 => (if t138.toList = a0.toList then (some (t126, t123, t128, t130, t132, t134, t136, 0)) else (some (0, 0, 0, 0, 0, 0, 0, 3)))))) else (none)) = some (r1, r2, r3, r4, r5, r6, r7, r8) := H
        have A15 := Aside0.mk A150
        clear A150
        by_cases c16 : 6 < (t119.length : Int)
        ·rw [if_pos c16] at H
         have c16b0 : decide (6 < (t119.length : Int)) = true := decide_eq_true c16
         have c16b1 : decide (6 < t119.length) = true := decide_eq_true (by omega)
         clear c16
         replace H := Option.bind_eq_some_iff.mp H
         obtain ⟨t136, A170, H⟩ := H
         replace H : (if a0.toList = ([] : List UInt8) then none else ((note_Show.f k t126 t123 t128 t130 t132 t134 t136).bind fun t138 => (if t138.toList = a0.toList then (some (t126, t123, t128, t130, t132, t134, t136, 0)) else (some (0, 0, 0, 0, 0, 0, 0, 3))))) = some (r1, r2, r3, r4, r5, r6, r7, r8) := H
         have A17 := Aside0.mk A170
         clear A170
         by_cases c18 : a0.toList = ([] : List UInt8)
         ·rw [if_pos c18] at H
          have c18b0 : (a0.toList == ([] : List UInt8)) = true := beq_iff_eq.mpr c18
          have c18b1 : (a0.toList != ([] : List UInt8)) = false := bne_eq_false_iff_eq.mpr c18
          clear c18
          exact absurd H (by simp)
         ·rw [if_neg c18] at H
          have c18b0 : (a0.toList == ([] : List UInt8)) = false := beq_eq_false_iff_ne.mpr c18
          have c18b1 : (a0.toList != ([] : List UInt8)) = true := bne_iff_ne.mpr c18
          replace H := Option.bind_eq_some_iff.mp H
          obtain ⟨t138, A350, H⟩ := H
          replace H : (if t138.toList = a0.toList then (some (t126, t123, t128, t130, t132, t134, t136, 0)) else (some (0, 0, 0, 0, 0, 0, 0, 3))) = some (r1, r2, r3, r4, r5, r6, r7, r8) := H
          have A35 := Aside0.mk A350
          clear A350
          by_cases c36 : t138.toList = a0.toList
          ·rw [if_pos c36] at H
           have c36b0 : (t138.toList == a0.toList) = true := beq_iff_eq.mpr c36
           have c36b1 : (t138.toList != a0.toList) = false := bne_eq_false_iff_eq.mpr c36
           clear c36
           simp only [Option.some.injEq, Prod.mk.injEq] at H
           omega
          ·rw [if_neg c36] at H
           have c36b0 : (t138.toList == a0.toList) = false := beq_eq_false_iff_ne.mpr c36
           have c36b1 : (t138.toList != a0.toList) = true := bne_iff_ne.mpr c36
           simp only [Option.some.injEq, Prod.mk.injEq] at H
           obtain ⟨rfl, rfl, rfl, rfl, rfl, rfl, rfl, rfl⟩ := H
           go_enter Tryd.func11, Tryd.ntmps11
           try go_wp2_with (first | ((with_reducible refine gate_dst (N := 2) rfl ?_); refine box_event ?hg (N := 2) ?hd (cs := #[.int .i64 0, .int .u64 0, .int .i64 0, .int .i64 0, .int .i64 0, .int .i64 0, .int .i64 0]) (t := 24) ?hr ?_; (case hd => rfl); (case hg => rfl); (case hr => first | (go_simp; done) | (go_simp; rfl)); intro gb118 hg w56 hbox hb; have n0_ := Aside0.mk (below_step (by repeat (first | exact HB.out | apply below_alloc | apply pw_below_drewN | apply below_drew1)) hb); have n1_ := Aside0.mk (hbox); have n2_ := Aside0.mk ((by rw [hg]; exact (below_size (by repeat (first | exact HB.out | apply below_alloc | apply pw_below_drewN | apply below_drew1))) : w.heap.size ≤ gb118)); have n3_ := n2_; clear HB; have HB := n0_; have BK118 := n1_; have GW118 := n2_; have GE118 := n3_; clear n0_ n1_ n2_ n3_; clear hb hbox hg) | ((with_reducible refine gate_callee (f := 28) rfl ?_); refine goesL_ (some 9) rfl rfl Tryd.func28 (by kernel_rfl) rfl #[.string a0, .string (⟨#[32]⟩ : ByteArray)] rfl (by (try simp only [List.map_toArray, List.map_cons, List.map_nil]); first | done | rfl | (simp only [List.length_drop, List.length_take]; rfl)) ?_; (with_reducible refine (strings_Split.calls a0 (⟨#[32]⟩ : ByteArray) t119 _ A2.out).mono ?_); rintro e w57 ⟨v120, rfl, ho0, hb⟩; refine ⟨_, rfl, ?_⟩; have n0_ := Aside0.mk (Kd.R_lower ho0 (below_size (by repeat (first | (with_reducible first | exact HB.out | apply below_alloc | apply pw_below_drewN | apply below_drew1 | refine below_set ?_ GE118.out) | exact HB.out)))); have n1_ := Aside0.mk (blk_below (g := gb118) (o := .cells #[.int .i64 0, .int .u64 0, .int .i64 0, .int .i64 0, .int .i64 0, .int .i64 0, .int .i64 0] 24 (0, 0)) (by (with_reducible repeat (first | refine blk_drewN ?_ _ | refine blk_drew ?_ | refine blk_alloc ?_ _)); exact BK118.out) hb); have n2_ := Aside0.mk (below_step (by repeat (first | (with_reducible first | exact HB.out | apply below_alloc | apply pw_below_drewN | apply below_drew1 | refine below_set ?_ GE118.out) | exact HB.out)) hb); clear BK118; clear HB; have HO121 := n0_; have BK118 := n1_; have HB := n2_; clear n0_ n1_ n2_; (try clear hb); (try clear hb2); (try clear hk); (try clear hi); (try clear ho0); obtain ⟨Ao58, co58, eo58⟩ := Kd.R_slice HO121.out; subst eo58; have p122 : 0 ≤ (1 : Int) := (by omega); have q122 : 1 < (t119.length : Int) := of_decide_eq_true (by first | (with_reducible assumption) | assumption); obtain ⟨ad122, e122, hx122_0⟩ := Kd.at_string (Kd.R_reads' HO121.out).2.2 1 p122 q122; cases e122; (try simp only [show (1 : Int).toNat = 1 from rfl, Nat.reduceMul, Nat.reduceEqDiff, Go.Addr.add, ↓reduceIte] at hx122_0); have qi122 : (1 < t119.length) = True := eq_true (by omega); (try rw [show ((1 : Int)).toNat = 1 from rfl] at hx122_0); replace p122 := eq_true p122; replace q122 := eq_true q122) | ((with_reducible refine gate_callee (f := 29) rfl ?_); refine goesL_ (some 18) rfl rfl Tryd.func29 (by kernel_rfl) rfl #[.string (rdOf ByteArray.empty t119 1)] rfl (by (try simp only [List.map_toArray, List.map_cons, List.map_nil]); first | done | rfl | (simp only [List.length_drop, List.length_take]; rfl)) ?_; (with_reducible refine (octet_Digits.calls k (rdOf ByteArray.empty t119 1) t123 t124 _ A5.out).mono ?_); rintro e w' ⟨rfl, ⟨nd, rfl⟩⟩; refine ⟨_, rfl, ?_⟩; (try (rw [drewN_self w57]; generalize hq_ : World.drewN w57 _ = w57; have n0_ : Aside0 (Kd.R Kd.string 9 w57 w.heap.size (fun _ => True) (.slice (some ad122) t119.length co58) t119) := ⟨by rw [← hq_]; exact (by (with_reducible repeat (first | apply Kd.R_alloc | apply Kd.R_drewN | apply Kd.R_drew)); exact HO121.out)⟩; have n1_ : Aside0 (w57.heap[gb118]? = some (.cells #[.int .i64 0, .int .u64 0, .int .i64 0, .int .i64 0, .int .i64 0, .int .i64 0, .int .i64 0] 24 (0, 0))) := ⟨by rw [← hq_]; exact (by (with_reducible repeat (first | refine blk_drewN ?_ _ | refine blk_drew ?_ | refine blk_alloc ?_ _)); exact BK118.out)⟩; have n2_ : Aside0 (Below w.heap.size w w57) := ⟨by rw [← hq_]; exact (by repeat (first | (with_reducible first | exact HB.out | apply below_alloc | apply pw_below_drewN | apply below_drew1 | refine below_set ?_ GE118.out) | exact HB.out))⟩; clear HO121 BK118 HB hq_; have HO121 := n0_; have BK118 := n1_; have HB := n2_; clear n0_ n1_ n2_))))
           have n0_ := Aside0.mk (Kd.R_drew HO121.out)
           have n1_ := Aside0.mk (blk_drew BK118.out)
           have n2_ := Aside0.mk (below_drew1 HB.out)
           clear HO121
           clear BK118
           clear HB
           have HO121 := n0_
           have BK118 := n1_
           have HB := n2_
           clear n0_ n1_ n2_
           have p125 : 0 ≤ (0 : Int) := (by omega)
           have q125 : 0 < (t119.length : Int) := of_decide_eq_true (by first | (with_reducible assumption) | assumption)
           obtain ⟨ad125, e125, hx125_0⟩ := Kd.at_string (Kd.R_reads' HO121.out).2.2 0 p125 q125
           obtain rfl : ad122 = ad125 := (by injection e125)
           have qi125 : (0 < t119.length) = True := eq_true (by omega)
           (try rw [show ((0 : Int)).toNat = 0 from rfl] at hx125_0)
           (try rw [Addr.add_zero'] at hx125_0)
           replace p125 := eq_true p125
           replace q125 := eq_true q125
           have p127 : 0 ≤ (2 : Int) := (by omega)
           have q127 : 2 < (t119.length : Int) := of_decide_eq_true (by first | (with_reducible assumption) | assumption)
           obtain ⟨ad127, e127, hx127_0⟩ := Kd.at_string (Kd.R_reads' HO121.out).2.2 2 p127 q127
           obtain rfl : ad122 = ad127 := (by injection e127)
           (try simp only [show (2 : Int).toNat = 2 from rfl, Nat.reduceMul, Nat.reduceEqDiff, Go.Addr.add, ↓reduceIte] at hx127_0)
           have qi127 : (2 < t119.length) = True := eq_true (by omega)
           (try rw [show ((2 : Int)).toNat = 2 from rfl] at hx127_0)
           replace p127 := eq_true p127
           replace q127 := eq_true q127
           have p129 : 0 ≤ (3 : Int) := (by omega)
           have q129 : 3 < (t119.length : Int) := of_decide_eq_true (by first | (with_reducible assumption) | assumption)
           obtain ⟨ad129, e129, hx129_0⟩ := Kd.at_string (Kd.R_reads' HO121.out).2.2 3 p129 q129
           obtain rfl : ad122 = ad129 := (by injection e129)
           (try simp only [show (3 : Int).toNat = 3 from rfl, Nat.reduceMul, Nat.reduceEqDiff, Go.Addr.add, ↓reduceIte] at hx129_0)
           have qi129 : (3 < t119.length) = True := eq_true (by omega)
           (try rw [show ((3 : Int)).toNat = 3 from rfl] at hx129_0)
           replace p129 := eq_true p129
           replace q129 := eq_true q129
           have p131 : 0 ≤ (4 : Int) := (by omega)
           have q131 : 4 < (t119.length : Int) := of_decide_eq_true (by first | (with_reducible assumption) | assumption)
           obtain ⟨ad131, e131, hx131_0⟩ := Kd.at_string (Kd.R_reads' HO121.out).2.2 4 p131 q131
           obtain rfl : ad122 = ad131 := (by injection e131)
           (try simp only [show (4 : Int).toNat = 4 from rfl, Nat.reduceMul, Nat.reduceEqDiff, Go.Addr.add, ↓reduceIte] at hx131_0)
           have qi131 : (4 < t119.length) = True := eq_true (by omega)
           (try rw [show ((4 : Int)).toNat = 4 from rfl] at hx131_0)
           replace p131 := eq_true p131
           replace q131 := eq_true q131
           have p133 : 0 ≤ (5 : Int) := (by omega)
           have q133 : 5 < (t119.length : Int) := of_decide_eq_true (by first | (with_reducible assumption) | assumption)
           obtain ⟨ad133, e133, hx133_0⟩ := Kd.at_string (Kd.R_reads' HO121.out).2.2 5 p133 q133
           obtain rfl : ad122 = ad133 := (by injection e133)
           (try simp only [show (5 : Int).toNat = 5 from rfl, Nat.reduceMul, Nat.reduceEqDiff, Go.Addr.add, ↓reduceIte] at hx133_0)
           have qi133 : (5 < t119.length) = True := eq_true (by omega)
           (try rw [show ((5 : Int)).toNat = 5 from rfl] at hx133_0)
           replace p133 := eq_true p133
           replace q133 := eq_true q133
           have p135 : 0 ≤ (6 : Int) := (by omega)
           have q135 : 6 < (t119.length : Int) := of_decide_eq_true (by first | (with_reducible assumption) | assumption)
           obtain ⟨ad135, e135, hx135_0⟩ := Kd.at_string (Kd.R_reads' HO121.out).2.2 6 p135 q135
           obtain rfl : ad122 = ad135 := (by injection e135)
           (try simp only [show (6 : Int).toNat = 6 from rfl, Nat.reduceMul, Nat.reduceEqDiff, Go.Addr.add, ↓reduceIte] at hx135_0)
           have qi135 : (6 < t119.length) = True := eq_true (by omega)
           (try rw [show ((6 : Int)).toNat = 6 from rfl] at hx135_0)
           replace p135 := eq_true p135
           replace q135 := eq_true q135
           refine start_ (n := 28) (S := fun w' => w'.cell? ad122 = some (.string (rdOf ByteArray.empty t119 0)) ∧ w'.cell? ⟨ad122.block, ad122.off + 2, none⟩ = some (.string (rdOf ByteArray.empty t119 2)) ∧ w'.cell? ⟨ad122.block, ad122.off + 3, none⟩ = some (.string (rdOf ByteArray.empty t119 3)) ∧ w'.cell? ⟨ad122.block, ad122.off + 4, none⟩ = some (.string (rdOf ByteArray.empty t119 4)) ∧ w'.cell? ⟨ad122.block, ad122.off + 5, none⟩ = some (.string (rdOf ByteArray.empty t119 5)) ∧ w'.cell? ⟨ad122.block, ad122.off + 6, none⟩ = some (.string (rdOf ByteArray.empty t119 6))) (ds := []) #[false, false, false, false, false, false, false, false, false, false, false, false, false, false, false, false, false, false, false, false, false, false, false, false, false, false, false, false] (by kernel_rfl) rfl rfl ⟨hx125_0, hx127_0, hx129_0, hx131_0, hx133_0, hx135_0⟩ (fun hHeld => ?_); refine with_tabW note_Read.tab5 note_Read.bits5 (fun HT_ HW_ => ?_)
           generalize w57.drew = w59 at HO121 BK118 HB hx125_0 hx127_0 hx129_0 hx131_0 hx133_0 hx135_0 hHeld ⊢
           refine pure_ (i := 0) (N := some 21) (v := ?_) (a' := ?_) #[true, false, false, false, false, false, false, false, false, false, false, false, false, false, false, false, false, false, false, false, false, false, false, false, false, false, false, false] rfl rfl (any_of HT_.out (by kernel_rfl)) (fun _ _ _ h => h) (Or.inl ⟨by rfl, ?_⟩) ?_ ?_
           rotate_left
           ·intro w'
            go_simp
            with_reducible rfl
           rotate_left
           ·simp only [Act.put, List.setIfInBounds_toArray, List.set_cons_zero, List.set_cons_succ, i64_w, i32_w]
            rfl
           refine pure_ (i := 1) (N := some 22) (v := ?_) (a' := ?_) #[true, true, false, false, false, false, false, false, false, false, false, false, false, false, false, false, false, false, false, false, false, false, false, false, false, false, false, false] rfl rfl (any_of HT_.out (by kernel_rfl)) (fun _ _ _ h => h) (Or.inl ⟨by rfl, ?_⟩) ?_ ?_
           rotate_left
           ·intro w'
            go_simp
            with_reducible rfl
           rotate_left
           ·simp only [Act.put, List.setIfInBounds_toArray, List.set_cons_zero, List.set_cons_succ, i64_w, i32_w]
            rfl
           refine pure_ (i := 4) (N := some 25) (v := ?_) (a' := ?_) #[true, true, false, false, true, false, false, false, false, false, false, false, false, false, false, false, false, false, false, false, false, false, false, false, false, false, false, false] rfl rfl (any_of HT_.out (by kernel_rfl)) (fun _ _ _ h => h) (Or.inl ⟨by rfl, ?_⟩) ?_ ?_
           rotate_left
           ·intro w'
            go_simp
            with_reducible rfl
           rotate_left
           ·simp only [Act.put, List.setIfInBounds_toArray, List.set_cons_zero, List.set_cons_succ, i64_w, i32_w]
            rfl
           refine pure_ (i := 5) (N := some 26) (v := ?_) (a' := ?_) #[true, true, false, false, true, true, false, false, false, false, false, false, false, false, false, false, false, false, false, false, false, false, false, false, false, false, false, false] rfl rfl (any_of HT_.out (by kernel_rfl)) (fun _ _ _ h => h) (Or.inl ⟨by rfl, ?_⟩) ?_ ?_
           rotate_left
           ·intro w'
            go_simp
            with_reducible rfl
           rotate_left
           ·simp only [Act.put, List.setIfInBounds_toArray, List.set_cons_zero, List.set_cons_succ, i64_w, i32_w]
            rfl
           refine pure_ (i := 6) (N := some 27) (v := ?_) (a' := ?_) #[true, true, false, false, true, true, true, false, false, false, false, false, false, false, false, false, false, false, false, false, false, false, false, false, false, false, false, false] rfl rfl (any_of HT_.out (by kernel_rfl)) (fun _ _ _ h => h) (Or.inl ⟨by rfl, ?_⟩) ?_ ?_
           rotate_left
           ·intro w'
            go_simp
            with_reducible rfl
           rotate_left
           ·simp only [Act.put, List.setIfInBounds_toArray, List.set_cons_zero, List.set_cons_succ, i64_w, i32_w]
            rfl
           refine pure_ (i := 9) (N := some 30) (v := ?_) (a' := ?_) #[true, true, false, false, true, true, true, false, false, true, false, false, false, false, false, false, false, false, false, false, false, false, false, false, false, false, false, false] rfl rfl (any_of HT_.out (by kernel_rfl)) (fun _ _ _ h => h) (Or.inl ⟨by rfl, ?_⟩) ?_ ?_
           rotate_left
           ·intro w'
            go_simp
            with_reducible rfl
           rotate_left
           ·simp only [Act.put, List.setIfInBounds_toArray, List.set_cons_zero, List.set_cons_succ, i64_w, i32_w]
            rfl
           refine pure_ (i := 10) (N := some 31) (v := ?_) (a' := ?_) #[true, true, false, false, true, true, true, false, false, true, true, false, false, false, false, false, false, false, false, false, false, false, false, false, false, false, false, false] rfl rfl (any_of HT_.out (by kernel_rfl)) (fun _ _ _ h => h) (Or.inl ⟨by rfl, ?_⟩) ?_ ?_
           rotate_left
           ·intro w'
            go_simp
            with_reducible rfl
           rotate_left
           ·simp only [Act.put, List.setIfInBounds_toArray, List.set_cons_zero, List.set_cons_succ, i64_w, i32_w]
            rfl
           refine pure_ (i := 13) (N := some 34) (v := ?_) (a' := ?_) #[true, true, false, false, true, true, true, false, false, true, true, false, false, true, false, false, false, false, false, false, false, false, false, false, false, false, false, false] rfl rfl (any_of HT_.out (by kernel_rfl)) (fun _ _ _ h => h) (Or.inl ⟨by rfl, ?_⟩) ?_ ?_
           rotate_left
           ·intro w'
            go_simp
            with_reducible rfl
           rotate_left
           ·simp only [Act.put, List.setIfInBounds_toArray, List.set_cons_zero, List.set_cons_succ, i64_w, i32_w]
            rfl
           refine pure_ (i := 14) (N := some 35) (v := ?_) (a' := ?_) #[true, true, false, false, true, true, true, false, false, true, true, false, false, true, true, false, false, false, false, false, false, false, false, false, false, false, false, false] rfl rfl (any_of HT_.out (by kernel_rfl)) (fun _ _ _ h => h) (Or.inl ⟨by rfl, ?_⟩) ?_ ?_
           rotate_left
           ·intro w'
            go_simp
            with_reducible rfl
           rotate_left
           ·simp only [Act.put, List.setIfInBounds_toArray, List.set_cons_zero, List.set_cons_succ, i64_w, i32_w]
            rfl
           refine pure_ (i := 17) (N := some 38) (v := ?_) (a' := ?_) #[true, true, false, false, true, true, true, false, false, true, true, false, false, true, true, false, false, true, false, false, false, false, false, false, false, false, false, false] rfl rfl (any_of HT_.out (by kernel_rfl)) (fun _ _ _ h => h) (Or.inl ⟨by rfl, ?_⟩) ?_ ?_
           rotate_left
           ·intro w'
            go_simp
            with_reducible rfl
           rotate_left
           ·simp only [Act.put, List.setIfInBounds_toArray, List.set_cons_zero, List.set_cons_succ, i64_w, i32_w]
            rfl
           refine pure_ (i := 18) (N := some 39) (v := ?_) (a' := ?_) #[true, true, false, false, true, true, true, false, false, true, true, false, false, true, true, false, false, true, true, false, false, false, false, false, false, false, false, false] rfl rfl (any_of HT_.out (by kernel_rfl)) (fun _ _ _ h => h) (Or.inl ⟨by rfl, ?_⟩) ?_ ?_
           rotate_left
           ·intro w'
            go_simp
            with_reducible rfl
           rotate_left
           ·simp only [Act.put, List.setIfInBounds_toArray, List.set_cons_zero, List.set_cons_succ, i64_w, i32_w]
            rfl
           refine pure_ (i := 21) (N := some 42) (v := ?_) (a' := ?_) #[true, true, false, false, true, true, true, false, false, true, true, false, false, true, true, false, false, true, true, false, false, true, false, false, false, false, false, false] rfl rfl (any_of HT_.out (by kernel_rfl)) (fun _ _ _ h => h) (Or.inl ⟨by rfl, ?_⟩) ?_ ?_
           rotate_left
           ·intro w'
            go_simp
            with_reducible rfl
           rotate_left
           ·simp only [Act.put, List.setIfInBounds_toArray, List.set_cons_zero, List.set_cons_succ, i64_w, i32_w]
            rfl
           refine pure_ (i := 22) (N := some 43) (v := ?_) (a' := ?_) #[true, true, false, false, true, true, true, false, false, true, true, false, false, true, true, false, false, true, true, false, false, true, true, false, false, false, false, false] rfl rfl (any_of HT_.out (by kernel_rfl)) (fun _ _ _ h => h) (Or.inl ⟨by rfl, ?_⟩) ?_ ?_
           rotate_left
           ·intro w'
            go_simp
            with_reducible rfl
           rotate_left
           ·simp only [Act.put, List.setIfInBounds_toArray, List.set_cons_zero, List.set_cons_succ, i64_w, i32_w]
            rfl
           refine take_ (i := 2) (N := some 23) (v := ?_) (a' := ?_) #[true, true, true, false, true, true, true, false, false, true, true, false, false, true, true, false, false, true, true, false, false, true, true, false, false, false, false, false] rfl rfl (take_ofW HT_.out HW_.out (by kernel_rfl)) (fun _ _ _ h => h) (Or.inl ⟨by rfl, ?_⟩) hHeld ?_ ?_
           rotate_left
           ·rintro w' ⟨s0, s1, s2, s3, s4, s5⟩
            go_simp
            with_reducible rfl
           rotate_left
           ·simp only [Act.put, List.setIfInBounds_toArray, List.set_cons_zero, List.set_cons_succ, i64_w, i32_w]
            rfl
           refine take_ (i := 7) (N := some 28) (v := ?_) (a' := ?_) #[true, true, true, false, true, true, true, true, false, true, true, false, false, true, true, false, false, true, true, false, false, true, true, false, false, false, false, false] rfl rfl (take_ofW HT_.out HW_.out (by kernel_rfl)) (fun _ _ _ h => h) (Or.inl ⟨by rfl, ?_⟩) hHeld ?_ ?_
           rotate_left
           ·rintro w' ⟨s0, s1, s2, s3, s4, s5⟩
            go_simp
            with_reducible rfl
           rotate_left
           ·simp only [Act.put, List.setIfInBounds_toArray, List.set_cons_zero, List.set_cons_succ, i64_w, i32_w]
            rfl
           refine take_ (i := 11) (N := some 32) (v := ?_) (a' := ?_) #[true, true, true, false, true, true, true, true, false, true, true, true, false, true, true, false, false, true, true, false, false, true, true, false, false, false, false, false] rfl rfl (take_ofW HT_.out HW_.out (by kernel_rfl)) (fun _ _ _ h => h) (Or.inl ⟨by rfl, ?_⟩) hHeld ?_ ?_
           rotate_left
           ·rintro w' ⟨s0, s1, s2, s3, s4, s5⟩
            go_simp
            with_reducible rfl
           rotate_left
           ·simp only [Act.put, List.setIfInBounds_toArray, List.set_cons_zero, List.set_cons_succ, i64_w, i32_w]
            rfl
           refine take_ (i := 15) (N := some 36) (v := ?_) (a' := ?_) #[true, true, true, false, true, true, true, true, false, true, true, true, false, true, true, true, false, true, true, false, false, true, true, false, false, false, false, false] rfl rfl (take_ofW HT_.out HW_.out (by kernel_rfl)) (fun _ _ _ h => h) (Or.inl ⟨by rfl, ?_⟩) hHeld ?_ ?_
           rotate_left
           ·rintro w' ⟨s0, s1, s2, s3, s4, s5⟩
            go_simp
            with_reducible rfl
           rotate_left
           ·simp only [Act.put, List.setIfInBounds_toArray, List.set_cons_zero, List.set_cons_succ, i64_w, i32_w]
            rfl
           refine take_ (i := 19) (N := some 40) (v := ?_) (a' := ?_) #[true, true, true, false, true, true, true, true, false, true, true, true, false, true, true, true, false, true, true, true, false, true, true, false, false, false, false, false] rfl rfl (take_ofW HT_.out HW_.out (by kernel_rfl)) (fun _ _ _ h => h) (Or.inl ⟨by rfl, ?_⟩) hHeld ?_ ?_
           rotate_left
           ·rintro w' ⟨s0, s1, s2, s3, s4, s5⟩
            go_simp
            with_reducible rfl
           rotate_left
           ·simp only [Act.put, List.setIfInBounds_toArray, List.set_cons_zero, List.set_cons_succ, i64_w, i32_w]
            rfl
           refine take_ (i := 23) (N := some 44) (v := ?_) (a' := ?_) #[true, true, true, false, true, true, true, true, false, true, true, true, false, true, true, true, false, true, true, true, false, true, true, true, false, false, false, false] rfl rfl (take_ofW HT_.out HW_.out (by kernel_rfl)) (fun _ _ _ h => h) (Or.inl ⟨by rfl, ?_⟩) hHeld ?_ ?_
           rotate_left
           ·rintro w' ⟨s0, s1, s2, s3, s4, s5⟩
            go_simp
            with_reducible rfl
           rotate_left
           ·simp only [Act.put, List.setIfInBounds_toArray, List.set_cons_zero, List.set_cons_succ, i64_w, i32_w]
            rfl
           refine join_ (σ := Nat) 1 #[true, true, true, true, true, true, true, true, true, true, true, true, true, true, true, true, true, true, true, true, true, true, true, true, true, true, true, false] (fun s_ => [(24, .int .i64 t126), (29, .int .i64 t128), (33, .int .i64 t130), (37, .int .i64 t132), (41, .int .i64 t134), (45, .int .i64 t136), (7, .pointer (some ⟨s_, 0, none⟩)), (46, .agg #[.int .i64 t126, .int .u64 t123, .int .i64 t128, .int .i64 t130, .int .i64 t132, .int .i64 t134, .int .i64 t136])]) (fun s_ w' => (w'.cell? ad122 = some (.string (rdOf ByteArray.empty t119 0)) ∧ w'.cell? ⟨ad122.block, ad122.off + 2, none⟩ = some (.string (rdOf ByteArray.empty t119 2)) ∧ w'.cell? ⟨ad122.block, ad122.off + 3, none⟩ = some (.string (rdOf ByteArray.empty t119 3)) ∧ w'.cell? ⟨ad122.block, ad122.off + 4, none⟩ = some (.string (rdOf ByteArray.empty t119 4)) ∧ w'.cell? ⟨ad122.block, ad122.off + 5, none⟩ = some (.string (rdOf ByteArray.empty t119 5)) ∧ w'.cell? ⟨ad122.block, ad122.off + 6, none⟩ = some (.string (rdOf ByteArray.empty t119 6))) ∧ (Kd.R Kd.string 9 w' w.heap.size (fun _ => True) (.slice (some ad122) t119.length co58) t119) ∧ (w'.heap[gb118]? = some (.cells #[.int .i64 0, .int .u64 0, .int .i64 0, .int .i64 0, .int .i64 0, .int .i64 0, .int .i64 0] 24 (0, 0))) ∧ (w'.heap[s_]? = some (.cells #[.int .i64 0, .int .u64 0, .int .i64 0, .int .i64 0, .int .i64 0, .int .i64 0, .int .i64 0] 24 (0, 0))) ∧ (w.heap.size ≤ s_) ∧ (w.heap.size ≤ s_) ∧ (gb118 ≠ s_) ∧ (s_ ≠ gb118) ∧ (Below w.heap.size w w')) ?_ ?_
           rotate_left
           ·intro hJ3_8_12_16_20_24_26
            refine join_ (σ := Unit) 2 #[true, true, true, true, true, true, true, true, true, true, true, true, true, true, true, true, true, true, true, true, true, true, true, true, true, true, false, false] (fun s_ => [(24, .int .i64 t126), (29, .int .i64 t128), (33, .int .i64 t130), (37, .int .i64 t132), (41, .int .i64 t134), (45, .int .i64 t136), (46, .agg #[.int .i64 t126, .int .u64 t123, .int .i64 t128, .int .i64 t130, .int .i64 t132, .int .i64 t134, .int .i64 t136])]) (fun s_ w' => (w'.cell? ad122 = some (.string (rdOf ByteArray.empty t119 0)) ∧ w'.cell? ⟨ad122.block, ad122.off + 2, none⟩ = some (.string (rdOf ByteArray.empty t119 2)) ∧ w'.cell? ⟨ad122.block, ad122.off + 3, none⟩ = some (.string (rdOf ByteArray.empty t119 3)) ∧ w'.cell? ⟨ad122.block, ad122.off + 4, none⟩ = some (.string (rdOf ByteArray.empty t119 4)) ∧ w'.cell? ⟨ad122.block, ad122.off + 5, none⟩ = some (.string (rdOf ByteArray.empty t119 5)) ∧ w'.cell? ⟨ad122.block, ad122.off + 6, none⟩ = some (.string (rdOf ByteArray.empty t119 6))) ∧ (Kd.R Kd.string 9 w' w.heap.size (fun _ => True) (.slice (some ad122) t119.length co58) t119) ∧ (w'.heap[gb118]? = some (.cells #[.int .i64 0, .int .u64 0, .int .i64 0, .int .i64 0, .int .i64 0, .int .i64 0, .int .i64 0] 24 (0, 0))) ∧ (Below w.heap.size w w')) ?_ ?_
            rotate_left
            ·intro hJ3_8_12_16_20_24
             refine join_ (σ := Nat) 3 #[true, true, true, true, true, true, true, true, true, true, true, true, true, true, true, true, true, true, true, true, true, true, true, true, false, false, true, false] (fun s_ => [(24, .int .i64 t126), (29, .int .i64 t128), (33, .int .i64 t130), (37, .int .i64 t132), (41, .int .i64 t134), (7, .pointer (some ⟨s_, 0, none⟩))]) (fun s_ w' => (w'.cell? ad122 = some (.string (rdOf ByteArray.empty t119 0)) ∧ w'.cell? ⟨ad122.block, ad122.off + 2, none⟩ = some (.string (rdOf ByteArray.empty t119 2)) ∧ w'.cell? ⟨ad122.block, ad122.off + 3, none⟩ = some (.string (rdOf ByteArray.empty t119 3)) ∧ w'.cell? ⟨ad122.block, ad122.off + 4, none⟩ = some (.string (rdOf ByteArray.empty t119 4)) ∧ w'.cell? ⟨ad122.block, ad122.off + 5, none⟩ = some (.string (rdOf ByteArray.empty t119 5)) ∧ w'.cell? ⟨ad122.block, ad122.off + 6, none⟩ = some (.string (rdOf ByteArray.empty t119 6))) ∧ (Kd.R Kd.string 9 w' w.heap.size (fun _ => True) (.slice (some ad122) t119.length co58) t119) ∧ (w'.heap[gb118]? = some (.cells #[.int .i64 0, .int .u64 0, .int .i64 0, .int .i64 0, .int .i64 0, .int .i64 0, .int .i64 0] 24 (0, 0))) ∧ (w'.heap[s_]? = some (.cells #[.int .i64 0, .int .u64 0, .int .i64 0, .int .i64 0, .int .i64 0, .int .i64 0, .int .i64 0] 24 (0, 0))) ∧ (w.heap.size ≤ s_) ∧ (w.heap.size ≤ s_) ∧ (gb118 ≠ s_) ∧ (s_ ≠ gb118) ∧ (Below w.heap.size w w')) ?_ ?_
             rotate_left
             ·intro hJ3_8_12_16_20_26
              refine join_ (σ := Unit) 4 #[true, true, true, true, true, true, true, true, true, true, true, true, true, true, true, true, true, true, true, true, true, true, true, true, false, false, false, false] (fun s_ => [(24, .int .i64 t126), (29, .int .i64 t128), (33, .int .i64 t130), (37, .int .i64 t132), (41, .int .i64 t134)]) (fun s_ w' => (w'.cell? ad122 = some (.string (rdOf ByteArray.empty t119 0)) ∧ w'.cell? ⟨ad122.block, ad122.off + 2, none⟩ = some (.string (rdOf ByteArray.empty t119 2)) ∧ w'.cell? ⟨ad122.block, ad122.off + 3, none⟩ = some (.string (rdOf ByteArray.empty t119 3)) ∧ w'.cell? ⟨ad122.block, ad122.off + 4, none⟩ = some (.string (rdOf ByteArray.empty t119 4)) ∧ w'.cell? ⟨ad122.block, ad122.off + 5, none⟩ = some (.string (rdOf ByteArray.empty t119 5)) ∧ w'.cell? ⟨ad122.block, ad122.off + 6, none⟩ = some (.string (rdOf ByteArray.empty t119 6))) ∧ (Kd.R Kd.string 9 w' w.heap.size (fun _ => True) (.slice (some ad122) t119.length co58) t119) ∧ (w'.heap[gb118]? = some (.cells #[.int .i64 0, .int .u64 0, .int .i64 0, .int .i64 0, .int .i64 0, .int .i64 0, .int .i64 0] 24 (0, 0))) ∧ (Below w.heap.size w w')) ?_ ?_
              rotate_left
              ·intro hJ3_8_12_16_20
               refine join_ (σ := Nat) 4 #[true, true, true, true, true, true, true, true, true, true, true, true, true, true, true, true, true, true, true, true, false, true, true, true, false, false, true, false] (fun s_ => [(24, .int .i64 t126), (29, .int .i64 t128), (33, .int .i64 t130), (37, .int .i64 t132), (7, .pointer (some ⟨s_, 0, none⟩))]) (fun s_ w' => (w'.cell? ad122 = some (.string (rdOf ByteArray.empty t119 0)) ∧ w'.cell? ⟨ad122.block, ad122.off + 2, none⟩ = some (.string (rdOf ByteArray.empty t119 2)) ∧ w'.cell? ⟨ad122.block, ad122.off + 3, none⟩ = some (.string (rdOf ByteArray.empty t119 3)) ∧ w'.cell? ⟨ad122.block, ad122.off + 4, none⟩ = some (.string (rdOf ByteArray.empty t119 4)) ∧ w'.cell? ⟨ad122.block, ad122.off + 5, none⟩ = some (.string (rdOf ByteArray.empty t119 5)) ∧ w'.cell? ⟨ad122.block, ad122.off + 6, none⟩ = some (.string (rdOf ByteArray.empty t119 6))) ∧ (Kd.R Kd.string 9 w' w.heap.size (fun _ => True) (.slice (some ad122) t119.length co58) t119) ∧ (w'.heap[gb118]? = some (.cells #[.int .i64 0, .int .u64 0, .int .i64 0, .int .i64 0, .int .i64 0, .int .i64 0, .int .i64 0] 24 (0, 0))) ∧ (w'.heap[s_]? = some (.cells #[.int .i64 0, .int .u64 0, .int .i64 0, .int .i64 0, .int .i64 0, .int .i64 0, .int .i64 0] 24 (0, 0))) ∧ (w.heap.size ≤ s_) ∧ (w.heap.size ≤ s_) ∧ (gb118 ≠ s_) ∧ (s_ ≠ gb118) ∧ (Below w.heap.size w w')) ?_ ?_
               rotate_left
               ·intro hJ3_8_12_16_26
                refine join_ (σ := Unit) 5 #[true, true, true, true, true, true, true, true, true, true, true, true, true, true, true, true, true, true, true, true, false, true, true, true, false, false, false, false] (fun s_ => [(24, .int .i64 t126), (29, .int .i64 t128), (33, .int .i64 t130), (37, .int .i64 t132)]) (fun s_ w' => (w'.cell? ad122 = some (.string (rdOf ByteArray.empty t119 0)) ∧ w'.cell? ⟨ad122.block, ad122.off + 2, none⟩ = some (.string (rdOf ByteArray.empty t119 2)) ∧ w'.cell? ⟨ad122.block, ad122.off + 3, none⟩ = some (.string (rdOf ByteArray.empty t119 3)) ∧ w'.cell? ⟨ad122.block, ad122.off + 4, none⟩ = some (.string (rdOf ByteArray.empty t119 4)) ∧ w'.cell? ⟨ad122.block, ad122.off + 5, none⟩ = some (.string (rdOf ByteArray.empty t119 5)) ∧ w'.cell? ⟨ad122.block, ad122.off + 6, none⟩ = some (.string (rdOf ByteArray.empty t119 6))) ∧ (Kd.R Kd.string 9 w' w.heap.size (fun _ => True) (.slice (some ad122) t119.length co58) t119) ∧ (w'.heap[gb118]? = some (.cells #[.int .i64 0, .int .u64 0, .int .i64 0, .int .i64 0, .int .i64 0, .int .i64 0, .int .i64 0] 24 (0, 0))) ∧ (Below w.heap.size w w')) ?_ ?_
                rotate_left
                ·intro hJ3_8_12_16
                 refine join_ (σ := Nat) 5 #[true, true, true, true, true, true, true, true, true, true, true, true, true, true, true, true, false, true, true, true, false, true, true, true, false, false, true, false] (fun s_ => [(24, .int .i64 t126), (29, .int .i64 t128), (33, .int .i64 t130), (7, .pointer (some ⟨s_, 0, none⟩))]) (fun s_ w' => (w'.cell? ad122 = some (.string (rdOf ByteArray.empty t119 0)) ∧ w'.cell? ⟨ad122.block, ad122.off + 2, none⟩ = some (.string (rdOf ByteArray.empty t119 2)) ∧ w'.cell? ⟨ad122.block, ad122.off + 3, none⟩ = some (.string (rdOf ByteArray.empty t119 3)) ∧ w'.cell? ⟨ad122.block, ad122.off + 4, none⟩ = some (.string (rdOf ByteArray.empty t119 4)) ∧ w'.cell? ⟨ad122.block, ad122.off + 5, none⟩ = some (.string (rdOf ByteArray.empty t119 5)) ∧ w'.cell? ⟨ad122.block, ad122.off + 6, none⟩ = some (.string (rdOf ByteArray.empty t119 6))) ∧ (Kd.R Kd.string 9 w' w.heap.size (fun _ => True) (.slice (some ad122) t119.length co58) t119) ∧ (w'.heap[gb118]? = some (.cells #[.int .i64 0, .int .u64 0, .int .i64 0, .int .i64 0, .int .i64 0, .int .i64 0, .int .i64 0] 24 (0, 0))) ∧ (w'.heap[s_]? = some (.cells #[.int .i64 0, .int .u64 0, .int .i64 0, .int .i64 0, .int .i64 0, .int .i64 0, .int .i64 0] 24 (0, 0))) ∧ (w.heap.size ≤ s_) ∧ (w.heap.size ≤ s_) ∧ (gb118 ≠ s_) ∧ (s_ ≠ gb118) ∧ (Below w.heap.size w w')) ?_ ?_
                 rotate_left
                 ·intro hJ3_8_12_26
                  refine join_ (σ := Unit) 6 #[true, true, true, true, true, true, true, true, true, true, true, true, true, true, true, true, false, true, true, true, false, true, true, true, false, false, false, false] (fun s_ => [(24, .int .i64 t126), (29, .int .i64 t128), (33, .int .i64 t130)]) (fun s_ w' => (w'.cell? ad122 = some (.string (rdOf ByteArray.empty t119 0)) ∧ w'.cell? ⟨ad122.block, ad122.off + 2, none⟩ = some (.string (rdOf ByteArray.empty t119 2)) ∧ w'.cell? ⟨ad122.block, ad122.off + 3, none⟩ = some (.string (rdOf ByteArray.empty t119 3)) ∧ w'.cell? ⟨ad122.block, ad122.off + 4, none⟩ = some (.string (rdOf ByteArray.empty t119 4)) ∧ w'.cell? ⟨ad122.block, ad122.off + 5, none⟩ = some (.string (rdOf ByteArray.empty t119 5)) ∧ w'.cell? ⟨ad122.block, ad122.off + 6, none⟩ = some (.string (rdOf ByteArray.empty t119 6))) ∧ (Kd.R Kd.string 9 w' w.heap.size (fun _ => True) (.slice (some ad122) t119.length co58) t119) ∧ (w'.heap[gb118]? = some (.cells #[.int .i64 0, .int .u64 0, .int .i64 0, .int .i64 0, .int .i64 0, .int .i64 0, .int .i64 0] 24 (0, 0))) ∧ (Below w.heap.size w w')) ?_ ?_
                  rotate_left
                  ·intro hJ3_8_12
                   refine join_ (σ := Nat) 6 #[true, true, true, true, true, true, true, true, true, true, true, true, false, true, true, true, false, true, true, true, false, true, true, true, false, false, true, false] (fun s_ => [(24, .int .i64 t126), (29, .int .i64 t128), (7, .pointer (some ⟨s_, 0, none⟩))]) (fun s_ w' => (w'.cell? ad122 = some (.string (rdOf ByteArray.empty t119 0)) ∧ w'.cell? ⟨ad122.block, ad122.off + 2, none⟩ = some (.string (rdOf ByteArray.empty t119 2)) ∧ w'.cell? ⟨ad122.block, ad122.off + 3, none⟩ = some (.string (rdOf ByteArray.empty t119 3)) ∧ w'.cell? ⟨ad122.block, ad122.off + 4, none⟩ = some (.string (rdOf ByteArray.empty t119 4)) ∧ w'.cell? ⟨ad122.block, ad122.off + 5, none⟩ = some (.string (rdOf ByteArray.empty t119 5)) ∧ w'.cell? ⟨ad122.block, ad122.off + 6, none⟩ = some (.string (rdOf ByteArray.empty t119 6))) ∧ (Kd.R Kd.string 9 w' w.heap.size (fun _ => True) (.slice (some ad122) t119.length co58) t119) ∧ (w'.heap[gb118]? = some (.cells #[.int .i64 0, .int .u64 0, .int .i64 0, .int .i64 0, .int .i64 0, .int .i64 0, .int .i64 0] 24 (0, 0))) ∧ (w'.heap[s_]? = some (.cells #[.int .i64 0, .int .u64 0, .int .i64 0, .int .i64 0, .int .i64 0, .int .i64 0, .int .i64 0] 24 (0, 0))) ∧ (w.heap.size ≤ s_) ∧ (w.heap.size ≤ s_) ∧ (gb118 ≠ s_) ∧ (s_ ≠ gb118) ∧ (Below w.heap.size w w')) ?_ ?_
                   rotate_left
                   ·intro hJ3_8_26
                    refine join_ (σ := Unit) 7 #[true, true, true, true, true, true, true, true, true, true, true, true, false, true, true, true, false, true, true, true, false, true, true, true, false, false, false, false] (fun s_ => [(24, .int .i64 t126), (29, .int .i64 t128)]) (fun s_ w' => (w'.cell? ad122 = some (.string (rdOf ByteArray.empty t119 0)) ∧ w'.cell? ⟨ad122.block, ad122.off + 2, none⟩ = some (.string (rdOf ByteArray.empty t119 2)) ∧ w'.cell? ⟨ad122.block, ad122.off + 3, none⟩ = some (.string (rdOf ByteArray.empty t119 3)) ∧ w'.cell? ⟨ad122.block, ad122.off + 4, none⟩ = some (.string (rdOf ByteArray.empty t119 4)) ∧ w'.cell? ⟨ad122.block, ad122.off + 5, none⟩ = some (.string (rdOf ByteArray.empty t119 5)) ∧ w'.cell? ⟨ad122.block, ad122.off + 6, none⟩ = some (.string (rdOf ByteArray.empty t119 6))) ∧ (Kd.R Kd.string 9 w' w.heap.size (fun _ => True) (.slice (some ad122) t119.length co58) t119) ∧ (w'.heap[gb118]? = some (.cells #[.int .i64 0, .int .u64 0, .int .i64 0, .int .i64 0, .int .i64 0, .int .i64 0, .int .i64 0] 24 (0, 0))) ∧ (Below w.heap.size w w')) ?_ ?_
                    rotate_left
                    ·intro hJ3_8
                     refine join_ (σ := Nat) 7 #[true, true, true, true, true, true, true, true, false, true, true, true, false, true, true, true, false, true, true, true, false, true, true, true, false, false, true, false] (fun s_ => [(24, .int .i64 t126), (7, .pointer (some ⟨s_, 0, none⟩))]) (fun s_ w' => (w'.cell? ad122 = some (.string (rdOf ByteArray.empty t119 0)) ∧ w'.cell? ⟨ad122.block, ad122.off + 2, none⟩ = some (.string (rdOf ByteArray.empty t119 2)) ∧ w'.cell? ⟨ad122.block, ad122.off + 3, none⟩ = some (.string (rdOf ByteArray.empty t119 3)) ∧ w'.cell? ⟨ad122.block, ad122.off + 4, none⟩ = some (.string (rdOf ByteArray.empty t119 4)) ∧ w'.cell? ⟨ad122.block, ad122.off + 5, none⟩ = some (.string (rdOf ByteArray.empty t119 5)) ∧ w'.cell? ⟨ad122.block, ad122.off + 6, none⟩ = some (.string (rdOf ByteArray.empty t119 6))) ∧ (Kd.R Kd.string 9 w' w.heap.size (fun _ => True) (.slice (some ad122) t119.length co58) t119) ∧ (w'.heap[gb118]? = some (.cells #[.int .i64 0, .int .u64 0, .int .i64 0, .int .i64 0, .int .i64 0, .int .i64 0, .int .i64 0] 24 (0, 0))) ∧ (w'.heap[s_]? = some (.cells #[.int .i64 0, .int .u64 0, .int .i64 0, .int .i64 0, .int .i64 0, .int .i64 0, .int .i64 0] 24 (0, 0))) ∧ (w.heap.size ≤ s_) ∧ (w.heap.size ≤ s_) ∧ (gb118 ≠ s_) ∧ (s_ ≠ gb118) ∧ (Below w.heap.size w w')) ?_ ?_
                     rotate_left
                     ·intro hJ3_26
                      refine join_ (σ := Unit) 8 #[true, true, true, true, true, true, true, true, false, true, true, true, false, true, true, true, false, true, true, true, false, true, true, true, false, false, false, false] (fun s_ => [(24, .int .i64 t126)]) (fun s_ w' => (w'.cell? ad122 = some (.string (rdOf ByteArray.empty t119 0)) ∧ w'.cell? ⟨ad122.block, ad122.off + 2, none⟩ = some (.string (rdOf ByteArray.empty t119 2)) ∧ w'.cell? ⟨ad122.block, ad122.off + 3, none⟩ = some (.string (rdOf ByteArray.empty t119 3)) ∧ w'.cell? ⟨ad122.block, ad122.off + 4, none⟩ = some (.string (rdOf ByteArray.empty t119 4)) ∧ w'.cell? ⟨ad122.block, ad122.off + 5, none⟩ = some (.string (rdOf ByteArray.empty t119 5)) ∧ w'.cell? ⟨ad122.block, ad122.off + 6, none⟩ = some (.string (rdOf ByteArray.empty t119 6))) ∧ (Kd.R Kd.string 9 w' w.heap.size (fun _ => True) (.slice (some ad122) t119.length co58) t119) ∧ (w'.heap[gb118]? = some (.cells #[.int .i64 0, .int .u64 0, .int .i64 0, .int .i64 0, .int .i64 0, .int .i64 0, .int .i64 0] 24 (0, 0))) ∧ (Below w.heap.size w w')) ?_ ?_
                      rotate_left
                      ·intro hJ3
                       refine join_ (σ := Nat) 8 #[true, true, true, false, true, true, true, true, false, true, true, true, false, true, true, true, false, true, true, true, false, true, true, true, false, false, true, false] (fun s_ => [(7, .pointer (some ⟨s_, 0, none⟩))]) (fun s_ w' => (w'.cell? ad122 = some (.string (rdOf ByteArray.empty t119 0)) ∧ w'.cell? ⟨ad122.block, ad122.off + 2, none⟩ = some (.string (rdOf ByteArray.empty t119 2)) ∧ w'.cell? ⟨ad122.block, ad122.off + 3, none⟩ = some (.string (rdOf ByteArray.empty t119 3)) ∧ w'.cell? ⟨ad122.block, ad122.off + 4, none⟩ = some (.string (rdOf ByteArray.empty t119 4)) ∧ w'.cell? ⟨ad122.block, ad122.off + 5, none⟩ = some (.string (rdOf ByteArray.empty t119 5)) ∧ w'.cell? ⟨ad122.block, ad122.off + 6, none⟩ = some (.string (rdOf ByteArray.empty t119 6))) ∧ (Kd.R Kd.string 9 w' w.heap.size (fun _ => True) (.slice (some ad122) t119.length co58) t119) ∧ (w'.heap[gb118]? = some (.cells #[.int .i64 0, .int .u64 0, .int .i64 0, .int .i64 0, .int .i64 0, .int .i64 0, .int .i64 0] 24 (0, 0))) ∧ (w'.heap[s_]? = some (.cells #[.int .i64 0, .int .u64 0, .int .i64 0, .int .i64 0, .int .i64 0, .int .i64 0, .int .i64 0] 24 (0, 0))) ∧ (w.heap.size ≤ s_) ∧ (w.heap.size ≤ s_) ∧ (gb118 ≠ s_) ∧ (s_ ≠ gb118) ∧ (Below w.heap.size w w')) ?_ ?_
                       rotate_left
                       ·intro hJ26
                        refine two_ (i := 3) (j := 26) (Ni := some 24) (Nj := some 7) #[true, true, true, true, true, true, true, true, false, true, true, true, false, true, true, true, false, true, true, true, false, true, true, true, false, false, false, false] #[true, true, true, false, true, true, true, true, false, true, true, true, false, true, true, true, false, true, true, true, false, true, true, true, false, false, true, false] rfl rfl rfl rfl (two_of HT_.out (by kernel_rfl)) (by decide) (by decide) (fun K hK => ?_) (fun K hK => ?_)
                        ·skip
                         refine goes_ Tryd.func30 (by kernel_rfl) rfl #[.string (rdOf ByteArray.empty t119 0)] (by rfl) rfl rfl (by (try simp only [List.map_toArray, List.map_cons, List.map_nil]); first | done | rfl | (simp only [List.length_drop, List.length_take]; rfl)) ?_
                         with_reducible refine (note_number.calls k (rdOf ByteArray.empty t119 0) t126 _ A7.out).mono ?_
                         rintro e w' ⟨rfl, ⟨nd, rfl⟩⟩
                         refine ⟨_, rfl, ?_⟩
                         refine hK.out _ _ ⟨hHeld.1, hHeld.2.1, hHeld.2.2.1, hHeld.2.2.2.1, hHeld.2.2.2.2.1, hHeld.2.2.2.2.2⟩ (fun hHeld => ?_)
                         clear hK K
                         refine norm_ (a' := ?_) ?_ ?_
                         rotate_left
                         ·show Act.put _ (some 24) _ = _
                          simp only [Act.put, List.setIfInBounds_toArray, List.set_cons_zero, List.set_cons_succ, i64_w, i32_w]
                          rfl
                         exact norm_ (by first | (simp only [putAll, Act.put, List.setIfInBounds_toArray, List.set_cons_zero, List.set_cons_succ]; done) | (simp only [putAll, Act.put, List.setIfInBounds_toArray, List.set_cons_zero, List.set_cons_succ]; rfl)) (hJ3 () _ ⟨hHeld, (by (with_reducible repeat (first | apply Kd.R_alloc | apply Kd.R_drewN | apply Kd.R_drew)); exact HO121.out), (by (with_reducible repeat (first | refine blk_drewN ?_ _ | refine blk_drew ?_ | refine blk_alloc ?_ _)); exact BK118.out), (by repeat (first | (with_reducible first | exact HB.out | apply below_alloc | apply pw_below_drewN | apply below_drew1 | refine below_set ?_ GE118.out) | exact HB.out))⟩)
                        ·skip
                         refine box_step ?hg (N := 7) ?hd (cs := #[.int .i64 0, .int .u64 0, .int .i64 0, .int .i64 0, .int .i64 0, .int .i64 0, .int .i64 0]) (t := 24) ?hr ?_; (case hd => rfl); (case hg => rfl); (case hr => first | (go_simp; done) | (go_simp; rfl))
                         intro gb137 hg w60 hbox hb
                         have HS0_ := (hb.cell (World.block_lt_of_cell? _ _ (hHeld.1))).trans (hHeld.1)
                         have HS1_ := (hb.cell (World.block_lt_of_cell? _ _ (hHeld.2.1))).trans (hHeld.2.1)
                         have HS2_ := (hb.cell (World.block_lt_of_cell? _ _ (hHeld.2.2.1))).trans (hHeld.2.2.1)
                         have HS3_ := (hb.cell (World.block_lt_of_cell? _ _ (hHeld.2.2.2.1))).trans (hHeld.2.2.2.1)
                         have HS4_ := (hb.cell (World.block_lt_of_cell? _ _ (hHeld.2.2.2.2.1))).trans (hHeld.2.2.2.2.1)
                         have HS5_ := (hb.cell (World.block_lt_of_cell? _ _ (hHeld.2.2.2.2.2))).trans (hHeld.2.2.2.2.2)
                         have n0_ := Aside0.mk (Kd.R_below (by (with_reducible repeat (first | apply Kd.R_alloc | apply Kd.R_drewN | apply Kd.R_drew)); exact HO121.out) hb)
                         have n1_ := Aside0.mk (blk_below (g := gb118) (o := .cells #[.int .i64 0, .int .u64 0, .int .i64 0, .int .i64 0, .int .i64 0, .int .i64 0, .int .i64 0] 24 (0, 0)) (by (with_reducible repeat (first | refine blk_drewN ?_ _ | refine blk_drew ?_ | refine blk_alloc ?_ _)); exact BK118.out) hb)
                         have n2_ := Aside0.mk (below_step (by repeat (first | (with_reducible first | exact HB.out | apply below_alloc | apply pw_below_drewN | apply below_drew1 | refine below_set ?_ GE118.out) | exact HB.out)) hb)
                         have n3_ := Aside0.mk (hbox)
                         have n4_ := Aside0.mk ((by rw [hg]; exact (below_size (by repeat (first | (with_reducible first | exact HB.out | apply below_alloc | apply pw_below_drewN | apply below_drew1 | refine below_set ?_ GE118.out) | exact HB.out))) : w.heap.size ≤ gb137))
                         have n5_ := Aside0.mk ((by rw [hg]; exact (below_size (by repeat (first | (with_reducible first | exact HB.out | apply below_alloc | apply pw_below_drewN | apply below_drew1 | refine below_set ?_ GE118.out) | exact HB.out))) : w.heap.size ≤ gb137))
                         have n6_ := Aside0.mk ((by rw [hg]; exact Nat.ne_of_lt (blk_lt (g := gb118) (o := .cells #[.int .i64 0, .int .u64 0, .int .i64 0, .int .i64 0, .int .i64 0, .int .i64 0, .int .i64 0] 24 (0, 0)) (by (with_reducible repeat (first | refine blk_drewN ?_ _ | refine blk_drew ?_ | refine blk_alloc ?_ _)); exact BK118.out)) : gb118 ≠ gb137))
                         have n7_ := Aside0.mk ((by rw [hg]; exact Nat.ne_of_gt (blk_lt (g := gb118) (o := .cells #[.int .i64 0, .int .u64 0, .int .i64 0, .int .i64 0, .int .i64 0, .int .i64 0, .int .i64 0] 24 (0, 0)) (by (with_reducible repeat (first | refine blk_drewN ?_ _ | refine blk_drew ?_ | refine blk_alloc ?_ _)); exact BK118.out)) : gb137 ≠ gb118))
                         clear HO121
                         clear BK118
                         clear HB
                         have HO121 := n0_
                         have BK118 := n1_
                         have HB := n2_
                         have BK137 := n3_
                         have GW137 := n4_
                         have GE137 := n5_
                         have NB118_137 := n6_
                         have NB137_118 := n7_
                         clear n0_ n1_ n2_ n3_ n4_ n5_ n6_ n7_
                         clear hb hbox hg
                         refine hK.out _ _ ⟨HS0_, HS1_, HS2_, HS3_, HS4_, HS5_⟩ (fun hHeld => ?_)
                         clear hK K
                         refine norm_ (a' := ?_) ?_ ?_
                         rotate_left
                         ·show Act.put _ (some 7) _ = _
                          simp only [Act.put, List.setIfInBounds_toArray, List.set_cons_zero, List.set_cons_succ, i64_w, i32_w]
                          rfl
                         exact norm_ (by first | (simp only [putAll, Act.put, List.setIfInBounds_toArray, List.set_cons_zero, List.set_cons_succ]; done) | (simp only [putAll, Act.put, List.setIfInBounds_toArray, List.set_cons_zero, List.set_cons_succ]; rfl)) (hJ26 (gb137) _ ⟨hHeld, (by (with_reducible repeat (first | apply Kd.R_alloc | apply Kd.R_drewN | apply Kd.R_drew)); exact HO121.out), (by (with_reducible repeat (first | refine blk_drewN ?_ _ | refine blk_drew ?_ | refine blk_alloc ?_ _)); exact BK118.out), (by (with_reducible repeat (first | refine blk_drewN ?_ _ | refine blk_drew ?_ | refine blk_alloc ?_ _)); exact BK137.out), GW137.out, GE137.out, NB118_137.out, NB137_118.out, (by repeat (first | (with_reducible first | exact HB.out | apply below_alloc | apply pw_below_drewN | apply below_drew1 | refine below_set ?_ GE118.out | refine below_set ?_ GE137.out) | exact HB.out))⟩)
                       ·skip
                        rintro gb137 w61 ⟨hS_, h0_, h1_, h2_, h3_, h4_, h5_, h6_, h7_⟩
                        have n0_ : Aside0 (Kd.R Kd.string 9 w61 w.heap.size (fun _ => True) (.slice (some ad122) t119.length co58) t119) := ⟨h0_⟩
                        have n1_ : Aside0 (w61.heap[gb118]? = some (.cells #[.int .i64 0, .int .u64 0, .int .i64 0, .int .i64 0, .int .i64 0, .int .i64 0, .int .i64 0] 24 (0, 0))) := ⟨h1_⟩
                        have n2_ : Aside0 (w61.heap[gb137]? = some (.cells #[.int .i64 0, .int .u64 0, .int .i64 0, .int .i64 0, .int .i64 0, .int .i64 0, .int .i64 0] 24 (0, 0))) := ⟨h2_⟩
                        have n3_ : Aside0 (w.heap.size ≤ gb137) := ⟨h3_⟩
                        have n4_ : Aside0 (w.heap.size ≤ gb137) := ⟨h4_⟩
                        have n5_ : Aside0 (gb118 ≠ gb137) := ⟨h5_⟩
                        have n6_ : Aside0 (gb137 ≠ gb118) := ⟨h6_⟩
                        have n7_ : Aside0 (Below w.heap.size w w61) := ⟨h7_⟩
                        clear HO121
                        clear BK118
                        clear HB
                        clear h0_ h1_ h2_ h3_ h4_ h5_ h6_ h7_
                        have HO121 := n0_
                        have BK118 := n1_
                        have BK137 := n2_
                        have GW137 := n3_
                        have GE137 := n4_
                        have NB118_137 := n5_
                        have NB137_118 := n6_
                        have HB := n7_
                        clear n0_ n1_ n2_ n3_ n4_ n5_ n6_ n7_
                        have hHeld : w61.cell? ad122 = some (.string (rdOf ByteArray.empty t119 0)) ∧ w61.cell? ⟨ad122.block, ad122.off + 2, none⟩ = some (.string (rdOf ByteArray.empty t119 2)) ∧ w61.cell? ⟨ad122.block, ad122.off + 3, none⟩ = some (.string (rdOf ByteArray.empty t119 3)) ∧ w61.cell? ⟨ad122.block, ad122.off + 4, none⟩ = some (.string (rdOf ByteArray.empty t119 4)) ∧ w61.cell? ⟨ad122.block, ad122.off + 5, none⟩ = some (.string (rdOf ByteArray.empty t119 5)) ∧ w61.cell? ⟨ad122.block, ad122.off + 6, none⟩ = some (.string (rdOf ByteArray.empty t119 6)) := hS_
                        refine norm_ (a' := ?_) ?_ ?_
                        rotate_left
                        ·simp only [putAll, Act.put, List.setIfInBounds_toArray, List.set_cons_zero, List.set_cons_succ]
                         rfl
                        refine one_ (i := 3) (N := some 24) #[true, true, true, true, true, true, true, true, false, true, true, true, false, true, true, true, false, true, true, true, false, true, true, true, false, false, true, false] rfl rfl (one_of HT_.out (by kernel_rfl)) (by decide) (fun K hK => ?_)
                        refine goes_ Tryd.func30 (by kernel_rfl) rfl #[.string (rdOf ByteArray.empty t119 0)] (by rfl) rfl rfl (by (try simp only [List.map_toArray, List.map_cons, List.map_nil]); first | done | rfl | (simp only [List.length_drop, List.length_take]; rfl)) ?_
                        with_reducible refine (note_number.calls k (rdOf ByteArray.empty t119 0) t126 _ A7.out).mono ?_
                        rintro e w' ⟨rfl, ⟨nd, rfl⟩⟩
                        refine ⟨_, rfl, ?_⟩
                        refine hK.out _ _ ⟨hHeld.1, hHeld.2.1, hHeld.2.2.1, hHeld.2.2.2.1, hHeld.2.2.2.2.1, hHeld.2.2.2.2.2⟩ (fun hHeld => ?_)
                        clear hK K
                        refine norm_ (a' := ?_) ?_ ?_
                        rotate_left
                        ·show Act.put _ (some 24) _ = _
                         simp only [Act.put, List.setIfInBounds_toArray, List.set_cons_zero, List.set_cons_succ, i64_w, i32_w]
                         rfl
                        exact norm_ (by first | (simp only [putAll, Act.put, List.setIfInBounds_toArray, List.set_cons_zero, List.set_cons_succ]; done) | (simp only [putAll, Act.put, List.setIfInBounds_toArray, List.set_cons_zero, List.set_cons_succ]; rfl)) (hJ3_26 (gb137) _ ⟨hHeld, (by (with_reducible repeat (first | apply Kd.R_alloc | apply Kd.R_drewN | apply Kd.R_drew)); exact HO121.out), (by (with_reducible repeat (first | refine blk_drewN ?_ _ | refine blk_drew ?_ | refine blk_alloc ?_ _)); exact BK118.out), (by (with_reducible repeat (first | refine blk_drewN ?_ _ | refine blk_drew ?_ | refine blk_alloc ?_ _)); exact BK137.out), GW137.out, GE137.out, NB118_137.out, NB137_118.out, (by repeat (first | (with_reducible first | exact HB.out | apply below_alloc | apply pw_below_drewN | apply below_drew1 | refine below_set ?_ GE118.out | refine below_set ?_ GE137.out) | exact HB.out))⟩)
                      ·skip
                       rintro _ w60 ⟨hS_, h0_, h1_, h2_⟩
                       have n0_ : Aside0 (Kd.R Kd.string 9 w60 w.heap.size (fun _ => True) (.slice (some ad122) t119.length co58) t119) := ⟨h0_⟩
                       have n1_ : Aside0 (w60.heap[gb118]? = some (.cells #[.int .i64 0, .int .u64 0, .int .i64 0, .int .i64 0, .int .i64 0, .int .i64 0, .int .i64 0] 24 (0, 0))) := ⟨h1_⟩
                       have n2_ : Aside0 (Below w.heap.size w w60) := ⟨h2_⟩
                       clear HO121
                       clear BK118
                       clear HB
                       clear h0_ h1_ h2_
                       have HO121 := n0_
                       have BK118 := n1_
                       have HB := n2_
                       clear n0_ n1_ n2_
                       have hHeld : w60.cell? ad122 = some (.string (rdOf ByteArray.empty t119 0)) ∧ w60.cell? ⟨ad122.block, ad122.off + 2, none⟩ = some (.string (rdOf ByteArray.empty t119 2)) ∧ w60.cell? ⟨ad122.block, ad122.off + 3, none⟩ = some (.string (rdOf ByteArray.empty t119 3)) ∧ w60.cell? ⟨ad122.block, ad122.off + 4, none⟩ = some (.string (rdOf ByteArray.empty t119 4)) ∧ w60.cell? ⟨ad122.block, ad122.off + 5, none⟩ = some (.string (rdOf ByteArray.empty t119 5)) ∧ w60.cell? ⟨ad122.block, ad122.off + 6, none⟩ = some (.string (rdOf ByteArray.empty t119 6)) := hS_
                       refine norm_ (a' := ?_) ?_ ?_
                       rotate_left
                       ·simp only [putAll, Act.put, List.setIfInBounds_toArray, List.set_cons_zero, List.set_cons_succ]
                        rfl
                       refine two_ (i := 8) (j := 26) (Ni := some 29) (Nj := some 7) #[true, true, true, true, true, true, true, true, true, true, true, true, false, true, true, true, false, true, true, true, false, true, true, true, false, false, false, false] #[true, true, true, true, true, true, true, true, false, true, true, true, false, true, true, true, false, true, true, true, false, true, true, true, false, false, true, false] rfl rfl rfl rfl (two_of HT_.out (by kernel_rfl)) (by decide) (by decide) (fun K hK => ?_) (fun K hK => ?_)
                       ·skip
                        refine goes_ Tryd.func31 (by kernel_rfl) rfl #[.string (rdOf ByteArray.empty t119 2)] (by rfl) rfl rfl (by (try simp only [List.map_toArray, List.map_cons, List.map_nil]); first | done | rfl | (simp only [List.length_drop, List.length_take]; rfl)) ?_
                        with_reducible refine (note_kind.calls k (rdOf ByteArray.empty t119 2) t128 _ A9.out).mono ?_
                        rintro e w61 ⟨rfl, hb⟩
                        have HS0_ := (hb.cell (World.block_lt_of_cell? _ _ (hHeld.1))).trans (hHeld.1)
                        have HS1_ := (hb.cell (World.block_lt_of_cell? _ _ (hHeld.2.1))).trans (hHeld.2.1)
                        have HS2_ := (hb.cell (World.block_lt_of_cell? _ _ (hHeld.2.2.1))).trans (hHeld.2.2.1)
                        have HS3_ := (hb.cell (World.block_lt_of_cell? _ _ (hHeld.2.2.2.1))).trans (hHeld.2.2.2.1)
                        have HS4_ := (hb.cell (World.block_lt_of_cell? _ _ (hHeld.2.2.2.2.1))).trans (hHeld.2.2.2.2.1)
                        have HS5_ := (hb.cell (World.block_lt_of_cell? _ _ (hHeld.2.2.2.2.2))).trans (hHeld.2.2.2.2.2)
                        refine ⟨_, rfl, ?_⟩
                        have n0_ := Aside0.mk (Kd.R_below (by (with_reducible repeat (first | apply Kd.R_alloc | apply Kd.R_drewN | apply Kd.R_drew)); exact HO121.out) hb)
                        have n1_ := Aside0.mk (blk_below (g := gb118) (o := .cells #[.int .i64 0, .int .u64 0, .int .i64 0, .int .i64 0, .int .i64 0, .int .i64 0, .int .i64 0] 24 (0, 0)) (by (with_reducible repeat (first | refine blk_drewN ?_ _ | refine blk_drew ?_ | refine blk_alloc ?_ _)); exact BK118.out) hb)
                        have n2_ := Aside0.mk (below_step (by repeat (first | (with_reducible first | exact HB.out | apply below_alloc | apply pw_below_drewN | apply below_drew1 | refine below_set ?_ GE118.out) | exact HB.out)) hb)
                        clear HO121
                        clear BK118
                        clear HB
                        have HO121 := n0_
                        have BK118 := n1_
                        have HB := n2_
                        clear n0_ n1_ n2_
                        (try clear hb)
                        (try clear hb2)
                        (try clear hk)
                        (try clear hi)
                        refine hK.out _ _ ⟨HS0_, HS1_, HS2_, HS3_, HS4_, HS5_⟩ (fun hHeld => ?_)
                        clear hK K
                        refine norm_ (a' := ?_) ?_ ?_
                        rotate_left
                        ·show Act.put _ (some 29) _ = _
                         simp only [Act.put, List.setIfInBounds_toArray, List.set_cons_zero, List.set_cons_succ, i64_w, i32_w]
                         rfl
                        exact norm_ (by first | (simp only [putAll, Act.put, List.setIfInBounds_toArray, List.set_cons_zero, List.set_cons_succ]; done) | (simp only [putAll, Act.put, List.setIfInBounds_toArray, List.set_cons_zero, List.set_cons_succ]; rfl)) (hJ3_8 () _ ⟨hHeld, (by (with_reducible repeat (first | apply Kd.R_alloc | apply Kd.R_drewN | apply Kd.R_drew)); exact HO121.out), (by (with_reducible repeat (first | refine blk_drewN ?_ _ | refine blk_drew ?_ | refine blk_alloc ?_ _)); exact BK118.out), (by repeat (first | (with_reducible first | exact HB.out | apply below_alloc | apply pw_below_drewN | apply below_drew1 | refine below_set ?_ GE118.out) | exact HB.out))⟩)
                       ·skip
                        refine box_step ?hg (N := 7) ?hd (cs := #[.int .i64 0, .int .u64 0, .int .i64 0, .int .i64 0, .int .i64 0, .int .i64 0, .int .i64 0]) (t := 24) ?hr ?_; (case hd => rfl); (case hg => rfl); (case hr => first | (go_simp; done) | (go_simp; rfl))
                        intro gb137 hg w61 hbox hb
                        have HS0_ := (hb.cell (World.block_lt_of_cell? _ _ (hHeld.1))).trans (hHeld.1)
                        have HS1_ := (hb.cell (World.block_lt_of_cell? _ _ (hHeld.2.1))).trans (hHeld.2.1)
                        have HS2_ := (hb.cell (World.block_lt_of_cell? _ _ (hHeld.2.2.1))).trans (hHeld.2.2.1)
                        have HS3_ := (hb.cell (World.block_lt_of_cell? _ _ (hHeld.2.2.2.1))).trans (hHeld.2.2.2.1)
                        have HS4_ := (hb.cell (World.block_lt_of_cell? _ _ (hHeld.2.2.2.2.1))).trans (hHeld.2.2.2.2.1)
                        have HS5_ := (hb.cell (World.block_lt_of_cell? _ _ (hHeld.2.2.2.2.2))).trans (hHeld.2.2.2.2.2)
                        have n0_ := Aside0.mk (Kd.R_below (by (with_reducible repeat (first | apply Kd.R_alloc | apply Kd.R_drewN | apply Kd.R_drew)); exact HO121.out) hb)
                        have n1_ := Aside0.mk (blk_below (g := gb118) (o := .cells #[.int .i64 0, .int .u64 0, .int .i64 0, .int .i64 0, .int .i64 0, .int .i64 0, .int .i64 0] 24 (0, 0)) (by (with_reducible repeat (first | refine blk_drewN ?_ _ | refine blk_drew ?_ | refine blk_alloc ?_ _)); exact BK118.out) hb)
                        have n2_ := Aside0.mk (below_step (by repeat (first | (with_reducible first | exact HB.out | apply below_alloc | apply pw_below_drewN | apply below_drew1 | refine below_set ?_ GE118.out) | exact HB.out)) hb)
                        have n3_ := Aside0.mk (hbox)
                        have n4_ := Aside0.mk ((by rw [hg]; exact (below_size (by repeat (first | (with_reducible first | exact HB.out | apply below_alloc | apply pw_below_drewN | apply below_drew1 | refine below_set ?_ GE118.out) | exact HB.out))) : w.heap.size ≤ gb137))
                        have n5_ := Aside0.mk ((by rw [hg]; exact (below_size (by repeat (first | (with_reducible first | exact HB.out | apply below_alloc | apply pw_below_drewN | apply below_drew1 | refine below_set ?_ GE118.out) | exact HB.out))) : w.heap.size ≤ gb137))
                        have n6_ := Aside0.mk ((by rw [hg]; exact Nat.ne_of_lt (blk_lt (g := gb118) (o := .cells #[.int .i64 0, .int .u64 0, .int .i64 0, .int .i64 0, .int .i64 0, .int .i64 0, .int .i64 0] 24 (0, 0)) (by (with_reducible repeat (first | refine blk_drewN ?_ _ | refine blk_drew ?_ | refine blk_alloc ?_ _)); exact BK118.out)) : gb118 ≠ gb137))
                        have n7_ := Aside0.mk ((by rw [hg]; exact Nat.ne_of_gt (blk_lt (g := gb118) (o := .cells #[.int .i64 0, .int .u64 0, .int .i64 0, .int .i64 0, .int .i64 0, .int .i64 0, .int .i64 0] 24 (0, 0)) (by (with_reducible repeat (first | refine blk_drewN ?_ _ | refine blk_drew ?_ | refine blk_alloc ?_ _)); exact BK118.out)) : gb137 ≠ gb118))
                        clear HO121
                        clear BK118
                        clear HB
                        have HO121 := n0_
                        have BK118 := n1_
                        have HB := n2_
                        have BK137 := n3_
                        have GW137 := n4_
                        have GE137 := n5_
                        have NB118_137 := n6_
                        have NB137_118 := n7_
                        clear n0_ n1_ n2_ n3_ n4_ n5_ n6_ n7_
                        clear hb hbox hg
                        refine hK.out _ _ ⟨HS0_, HS1_, HS2_, HS3_, HS4_, HS5_⟩ (fun hHeld => ?_)
                        clear hK K
                        refine norm_ (a' := ?_) ?_ ?_
                        rotate_left
                        ·show Act.put _ (some 7) _ = _
                         simp only [Act.put, List.setIfInBounds_toArray, List.set_cons_zero, List.set_cons_succ, i64_w, i32_w]
                         rfl
                        exact norm_ (by first | (simp only [putAll, Act.put, List.setIfInBounds_toArray, List.set_cons_zero, List.set_cons_succ]; done) | (simp only [putAll, Act.put, List.setIfInBounds_toArray, List.set_cons_zero, List.set_cons_succ]; rfl)) (hJ3_26 (gb137) _ ⟨hHeld, (by (with_reducible repeat (first | apply Kd.R_alloc | apply Kd.R_drewN | apply Kd.R_drew)); exact HO121.out), (by (with_reducible repeat (first | refine blk_drewN ?_ _ | refine blk_drew ?_ | refine blk_alloc ?_ _)); exact BK118.out), (by (with_reducible repeat (first | refine blk_drewN ?_ _ | refine blk_drew ?_ | refine blk_alloc ?_ _)); exact BK137.out), GW137.out, GE137.out, NB118_137.out, NB137_118.out, (by repeat (first | (with_reducible first | exact HB.out | apply below_alloc | apply pw_below_drewN | apply below_drew1 | refine below_set ?_ GE118.out | refine below_set ?_ GE137.out) | exact HB.out))⟩)
                     ·skip
                      rintro gb137 w61 ⟨hS_, h0_, h1_, h2_, h3_, h4_, h5_, h6_, h7_⟩
                      have n0_ : Aside0 (Kd.R Kd.string 9 w61 w.heap.size (fun _ => True) (.slice (some ad122) t119.length co58) t119) := ⟨h0_⟩
                      have n1_ : Aside0 (w61.heap[gb118]? = some (.cells #[.int .i64 0, .int .u64 0, .int .i64 0, .int .i64 0, .int .i64 0, .int .i64 0, .int .i64 0] 24 (0, 0))) := ⟨h1_⟩
                      have n2_ : Aside0 (w61.heap[gb137]? = some (.cells #[.int .i64 0, .int .u64 0, .int .i64 0, .int .i64 0, .int .i64 0, .int .i64 0, .int .i64 0] 24 (0, 0))) := ⟨h2_⟩
                      have n3_ : Aside0 (w.heap.size ≤ gb137) := ⟨h3_⟩
                      have n4_ : Aside0 (w.heap.size ≤ gb137) := ⟨h4_⟩
                      have n5_ : Aside0 (gb118 ≠ gb137) := ⟨h5_⟩
                      have n6_ : Aside0 (gb137 ≠ gb118) := ⟨h6_⟩
                      have n7_ : Aside0 (Below w.heap.size w w61) := ⟨h7_⟩
                      clear HO121
                      clear BK118
                      clear HB
                      clear h0_ h1_ h2_ h3_ h4_ h5_ h6_ h7_
                      have HO121 := n0_
                      have BK118 := n1_
                      have BK137 := n2_
                      have GW137 := n3_
                      have GE137 := n4_
                      have NB118_137 := n5_
                      have NB137_118 := n6_
                      have HB := n7_
                      clear n0_ n1_ n2_ n3_ n4_ n5_ n6_ n7_
                      have hHeld : w61.cell? ad122 = some (.string (rdOf ByteArray.empty t119 0)) ∧ w61.cell? ⟨ad122.block, ad122.off + 2, none⟩ = some (.string (rdOf ByteArray.empty t119 2)) ∧ w61.cell? ⟨ad122.block, ad122.off + 3, none⟩ = some (.string (rdOf ByteArray.empty t119 3)) ∧ w61.cell? ⟨ad122.block, ad122.off + 4, none⟩ = some (.string (rdOf ByteArray.empty t119 4)) ∧ w61.cell? ⟨ad122.block, ad122.off + 5, none⟩ = some (.string (rdOf ByteArray.empty t119 5)) ∧ w61.cell? ⟨ad122.block, ad122.off + 6, none⟩ = some (.string (rdOf ByteArray.empty t119 6)) := hS_
                      refine norm_ (a' := ?_) ?_ ?_
                      rotate_left
                      ·simp only [putAll, Act.put, List.setIfInBounds_toArray, List.set_cons_zero, List.set_cons_succ]
                       rfl
                      refine one_ (i := 8) (N := some 29) #[true, true, true, true, true, true, true, true, true, true, true, true, false, true, true, true, false, true, true, true, false, true, true, true, false, false, true, false] rfl rfl (one_of HT_.out (by kernel_rfl)) (by decide) (fun K hK => ?_)
                      refine goes_ Tryd.func31 (by kernel_rfl) rfl #[.string (rdOf ByteArray.empty t119 2)] (by rfl) rfl rfl (by (try simp only [List.map_toArray, List.map_cons, List.map_nil]); first | done | rfl | (simp only [List.length_drop, List.length_take]; rfl)) ?_
                      with_reducible refine (note_kind.calls k (rdOf ByteArray.empty t119 2) t128 _ A9.out).mono ?_
                      rintro e w62 ⟨rfl, hb⟩
                      have HS0_ := (hb.cell (World.block_lt_of_cell? _ _ (hHeld.1))).trans (hHeld.1)
                      have HS1_ := (hb.cell (World.block_lt_of_cell? _ _ (hHeld.2.1))).trans (hHeld.2.1)
                      have HS2_ := (hb.cell (World.block_lt_of_cell? _ _ (hHeld.2.2.1))).trans (hHeld.2.2.1)
                      have HS3_ := (hb.cell (World.block_lt_of_cell? _ _ (hHeld.2.2.2.1))).trans (hHeld.2.2.2.1)
                      have HS4_ := (hb.cell (World.block_lt_of_cell? _ _ (hHeld.2.2.2.2.1))).trans (hHeld.2.2.2.2.1)
                      have HS5_ := (hb.cell (World.block_lt_of_cell? _ _ (hHeld.2.2.2.2.2))).trans (hHeld.2.2.2.2.2)
                      refine ⟨_, rfl, ?_⟩
                      have n0_ := Aside0.mk (Kd.R_below (by (with_reducible repeat (first | apply Kd.R_alloc | apply Kd.R_drewN | apply Kd.R_drew)); exact HO121.out) hb)
                      have n1_ := Aside0.mk (blk_below (g := gb118) (o := .cells #[.int .i64 0, .int .u64 0, .int .i64 0, .int .i64 0, .int .i64 0, .int .i64 0, .int .i64 0] 24 (0, 0)) (by (with_reducible repeat (first | refine blk_drewN ?_ _ | refine blk_drew ?_ | refine blk_alloc ?_ _)); exact BK118.out) hb)
                      have n2_ := Aside0.mk (blk_below (g := gb137) (o := .cells #[.int .i64 0, .int .u64 0, .int .i64 0, .int .i64 0, .int .i64 0, .int .i64 0, .int .i64 0] 24 (0, 0)) (by (with_reducible repeat (first | refine blk_drewN ?_ _ | refine blk_drew ?_ | refine blk_alloc ?_ _)); exact BK137.out) hb)
                      have n3_ := Aside0.mk (below_step (by repeat (first | (with_reducible first | exact HB.out | apply below_alloc | apply pw_below_drewN | apply below_drew1 | refine below_set ?_ GE118.out | refine below_set ?_ GE137.out) | exact HB.out)) hb)
                      clear HO121
                      clear BK118
                      clear BK137
                      clear HB
                      have HO121 := n0_
                      have BK118 := n1_
                      have BK137 := n2_
                      have HB := n3_
                      clear n0_ n1_ n2_ n3_
                      (try clear hb)
                      (try clear hb2)
                      (try clear hk)
                      (try clear hi)
                      refine hK.out _ _ ⟨HS0_, HS1_, HS2_, HS3_, HS4_, HS5_⟩ (fun hHeld => ?_)
                      clear hK K
                      refine norm_ (a' := ?_) ?_ ?_
                      rotate_left
                      ·show Act.put _ (some 29) _ = _
                       simp only [Act.put, List.setIfInBounds_toArray, List.set_cons_zero, List.set_cons_succ, i64_w, i32_w]
                       rfl
                      exact norm_ (by first | (simp only [putAll, Act.put, List.setIfInBounds_toArray, List.set_cons_zero, List.set_cons_succ]; done) | (simp only [putAll, Act.put, List.setIfInBounds_toArray, List.set_cons_zero, List.set_cons_succ]; rfl)) (hJ3_8_26 (gb137) _ ⟨hHeld, (by (with_reducible repeat (first | apply Kd.R_alloc | apply Kd.R_drewN | apply Kd.R_drew)); exact HO121.out), (by (with_reducible repeat (first | refine blk_drewN ?_ _ | refine blk_drew ?_ | refine blk_alloc ?_ _)); exact BK118.out), (by (with_reducible repeat (first | refine blk_drewN ?_ _ | refine blk_drew ?_ | refine blk_alloc ?_ _)); exact BK137.out), GW137.out, GE137.out, NB118_137.out, NB137_118.out, (by repeat (first | (with_reducible first | exact HB.out | apply below_alloc | apply pw_below_drewN | apply below_drew1 | refine below_set ?_ GE118.out | refine below_set ?_ GE137.out) | exact HB.out))⟩)
                    ·skip
                     rintro _ w61 ⟨hS_, h0_, h1_, h2_⟩
                     have n0_ : Aside0 (Kd.R Kd.string 9 w61 w.heap.size (fun _ => True) (.slice (some ad122) t119.length co58) t119) := ⟨h0_⟩
                     have n1_ : Aside0 (w61.heap[gb118]? = some (.cells #[.int .i64 0, .int .u64 0, .int .i64 0, .int .i64 0, .int .i64 0, .int .i64 0, .int .i64 0] 24 (0, 0))) := ⟨h1_⟩
                     have n2_ : Aside0 (Below w.heap.size w w61) := ⟨h2_⟩
                     clear HO121
                     clear BK118
                     clear HB
                     clear h0_ h1_ h2_
                     have HO121 := n0_
                     have BK118 := n1_
                     have HB := n2_
                     clear n0_ n1_ n2_
                     have hHeld : w61.cell? ad122 = some (.string (rdOf ByteArray.empty t119 0)) ∧ w61.cell? ⟨ad122.block, ad122.off + 2, none⟩ = some (.string (rdOf ByteArray.empty t119 2)) ∧ w61.cell? ⟨ad122.block, ad122.off + 3, none⟩ = some (.string (rdOf ByteArray.empty t119 3)) ∧ w61.cell? ⟨ad122.block, ad122.off + 4, none⟩ = some (.string (rdOf ByteArray.empty t119 4)) ∧ w61.cell? ⟨ad122.block, ad122.off + 5, none⟩ = some (.string (rdOf ByteArray.empty t119 5)) ∧ w61.cell? ⟨ad122.block, ad122.off + 6, none⟩ = some (.string (rdOf ByteArray.empty t119 6)) := hS_
                     refine norm_ (a' := ?_) ?_ ?_
                     rotate_left
                     ·simp only [putAll, Act.put, List.setIfInBounds_toArray, List.set_cons_zero, List.set_cons_succ]
                      rfl
                     refine two_ (i := 12) (j := 26) (Ni := some 33) (Nj := some 7) #[true, true, true, true, true, true, true, true, true, true, true, true, true, true, true, true, false, true, true, true, false, true, true, true, false, false, false, false] #[true, true, true, true, true, true, true, true, true, true, true, true, false, true, true, true, false, true, true, true, false, true, true, true, false, false, true, false] rfl rfl rfl rfl (two_of HT_.out (by kernel_rfl)) (by decide) (by decide) (fun K hK => ?_) (fun K hK => ?_)
                     ·skip
                      refine goes_ Tryd.func30 (by kernel_rfl) rfl #[.string (rdOf ByteArray.empty t119 3)] (by rfl) rfl rfl (by (try simp only [List.map_toArray, List.map_cons, List.map_nil]); first | done | rfl | (simp only [List.length_drop, List.length_take]; rfl)) ?_
                      with_reducible refine (note_number.calls k (rdOf ByteArray.empty t119 3) t130 _ A11.out).mono ?_
                      rintro e w' ⟨rfl, ⟨nd, rfl⟩⟩
                      refine ⟨_, rfl, ?_⟩
                      refine hK.out _ _ ⟨hHeld.1, hHeld.2.1, hHeld.2.2.1, hHeld.2.2.2.1, hHeld.2.2.2.2.1, hHeld.2.2.2.2.2⟩ (fun hHeld => ?_)
                      clear hK K
                      refine norm_ (a' := ?_) ?_ ?_
                      rotate_left
                      ·show Act.put _ (some 33) _ = _
                       simp only [Act.put, List.setIfInBounds_toArray, List.set_cons_zero, List.set_cons_succ, i64_w, i32_w]
                       rfl
                      exact norm_ (by first | (simp only [putAll, Act.put, List.setIfInBounds_toArray, List.set_cons_zero, List.set_cons_succ]; done) | (simp only [putAll, Act.put, List.setIfInBounds_toArray, List.set_cons_zero, List.set_cons_succ]; rfl)) (hJ3_8_12 () _ ⟨hHeld, (by (with_reducible repeat (first | apply Kd.R_alloc | apply Kd.R_drewN | apply Kd.R_drew)); exact HO121.out), (by (with_reducible repeat (first | refine blk_drewN ?_ _ | refine blk_drew ?_ | refine blk_alloc ?_ _)); exact BK118.out), (by repeat (first | (with_reducible first | exact HB.out | apply below_alloc | apply pw_below_drewN | apply below_drew1 | refine below_set ?_ GE118.out) | exact HB.out))⟩)
                     ·skip
                      refine box_step ?hg (N := 7) ?hd (cs := #[.int .i64 0, .int .u64 0, .int .i64 0, .int .i64 0, .int .i64 0, .int .i64 0, .int .i64 0]) (t := 24) ?hr ?_; (case hd => rfl); (case hg => rfl); (case hr => first | (go_simp; done) | (go_simp; rfl))
                      intro gb137 hg w62 hbox hb
                      have HS0_ := (hb.cell (World.block_lt_of_cell? _ _ (hHeld.1))).trans (hHeld.1)
                      have HS1_ := (hb.cell (World.block_lt_of_cell? _ _ (hHeld.2.1))).trans (hHeld.2.1)
                      have HS2_ := (hb.cell (World.block_lt_of_cell? _ _ (hHeld.2.2.1))).trans (hHeld.2.2.1)
                      have HS3_ := (hb.cell (World.block_lt_of_cell? _ _ (hHeld.2.2.2.1))).trans (hHeld.2.2.2.1)
                      have HS4_ := (hb.cell (World.block_lt_of_cell? _ _ (hHeld.2.2.2.2.1))).trans (hHeld.2.2.2.2.1)
                      have HS5_ := (hb.cell (World.block_lt_of_cell? _ _ (hHeld.2.2.2.2.2))).trans (hHeld.2.2.2.2.2)
                      have n0_ := Aside0.mk (Kd.R_below (by (with_reducible repeat (first | apply Kd.R_alloc | apply Kd.R_drewN | apply Kd.R_drew)); exact HO121.out) hb)
                      have n1_ := Aside0.mk (blk_below (g := gb118) (o := .cells #[.int .i64 0, .int .u64 0, .int .i64 0, .int .i64 0, .int .i64 0, .int .i64 0, .int .i64 0] 24 (0, 0)) (by (with_reducible repeat (first | refine blk_drewN ?_ _ | refine blk_drew ?_ | refine blk_alloc ?_ _)); exact BK118.out) hb)
                      have n2_ := Aside0.mk (below_step (by repeat (first | (with_reducible first | exact HB.out | apply below_alloc | apply pw_below_drewN | apply below_drew1 | refine below_set ?_ GE118.out) | exact HB.out)) hb)
                      have n3_ := Aside0.mk (hbox)
                      have n4_ := Aside0.mk ((by rw [hg]; exact (below_size (by repeat (first | (with_reducible first | exact HB.out | apply below_alloc | apply pw_below_drewN | apply below_drew1 | refine below_set ?_ GE118.out) | exact HB.out))) : w.heap.size ≤ gb137))
                      have n5_ := Aside0.mk ((by rw [hg]; exact (below_size (by repeat (first | (with_reducible first | exact HB.out | apply below_alloc | apply pw_below_drewN | apply below_drew1 | refine below_set ?_ GE118.out) | exact HB.out))) : w.heap.size ≤ gb137))
                      have n6_ := Aside0.mk ((by rw [hg]; exact Nat.ne_of_lt (blk_lt (g := gb118) (o := .cells #[.int .i64 0, .int .u64 0, .int .i64 0, .int .i64 0, .int .i64 0, .int .i64 0, .int .i64 0] 24 (0, 0)) (by (with_reducible repeat (first | refine blk_drewN ?_ _ | refine blk_drew ?_ | refine blk_alloc ?_ _)); exact BK118.out)) : gb118 ≠ gb137))
                      have n7_ := Aside0.mk ((by rw [hg]; exact Nat.ne_of_gt (blk_lt (g := gb118) (o := .cells #[.int .i64 0, .int .u64 0, .int .i64 0, .int .i64 0, .int .i64 0, .int .i64 0, .int .i64 0] 24 (0, 0)) (by (with_reducible repeat (first | refine blk_drewN ?_ _ | refine blk_drew ?_ | refine blk_alloc ?_ _)); exact BK118.out)) : gb137 ≠ gb118))
                      clear HO121
                      clear BK118
                      clear HB
                      have HO121 := n0_
                      have BK118 := n1_
                      have HB := n2_
                      have BK137 := n3_
                      have GW137 := n4_
                      have GE137 := n5_
                      have NB118_137 := n6_
                      have NB137_118 := n7_
                      clear n0_ n1_ n2_ n3_ n4_ n5_ n6_ n7_
                      clear hb hbox hg
                      refine hK.out _ _ ⟨HS0_, HS1_, HS2_, HS3_, HS4_, HS5_⟩ (fun hHeld => ?_)
                      clear hK K
                      refine norm_ (a' := ?_) ?_ ?_
                      rotate_left
                      ·show Act.put _ (some 7) _ = _
                       simp only [Act.put, List.setIfInBounds_toArray, List.set_cons_zero, List.set_cons_succ, i64_w, i32_w]
                       rfl
                      exact norm_ (by first | (simp only [putAll, Act.put, List.setIfInBounds_toArray, List.set_cons_zero, List.set_cons_succ]; done) | (simp only [putAll, Act.put, List.setIfInBounds_toArray, List.set_cons_zero, List.set_cons_succ]; rfl)) (hJ3_8_26 (gb137) _ ⟨hHeld, (by (with_reducible repeat (first | apply Kd.R_alloc | apply Kd.R_drewN | apply Kd.R_drew)); exact HO121.out), (by (with_reducible repeat (first | refine blk_drewN ?_ _ | refine blk_drew ?_ | refine blk_alloc ?_ _)); exact BK118.out), (by (with_reducible repeat (first | refine blk_drewN ?_ _ | refine blk_drew ?_ | refine blk_alloc ?_ _)); exact BK137.out), GW137.out, GE137.out, NB118_137.out, NB137_118.out, (by repeat (first | (with_reducible first | exact HB.out | apply below_alloc | apply pw_below_drewN | apply below_drew1 | refine below_set ?_ GE118.out | refine below_set ?_ GE137.out) | exact HB.out))⟩)
                   ·skip
                    rintro gb137 w62 ⟨hS_, h0_, h1_, h2_, h3_, h4_, h5_, h6_, h7_⟩
                    have n0_ : Aside0 (Kd.R Kd.string 9 w62 w.heap.size (fun _ => True) (.slice (some ad122) t119.length co58) t119) := ⟨h0_⟩
                    have n1_ : Aside0 (w62.heap[gb118]? = some (.cells #[.int .i64 0, .int .u64 0, .int .i64 0, .int .i64 0, .int .i64 0, .int .i64 0, .int .i64 0] 24 (0, 0))) := ⟨h1_⟩
                    have n2_ : Aside0 (w62.heap[gb137]? = some (.cells #[.int .i64 0, .int .u64 0, .int .i64 0, .int .i64 0, .int .i64 0, .int .i64 0, .int .i64 0] 24 (0, 0))) := ⟨h2_⟩
                    have n3_ : Aside0 (w.heap.size ≤ gb137) := ⟨h3_⟩
                    have n4_ : Aside0 (w.heap.size ≤ gb137) := ⟨h4_⟩
                    have n5_ : Aside0 (gb118 ≠ gb137) := ⟨h5_⟩
                    have n6_ : Aside0 (gb137 ≠ gb118) := ⟨h6_⟩
                    have n7_ : Aside0 (Below w.heap.size w w62) := ⟨h7_⟩
                    clear HO121
                    clear BK118
                    clear HB
                    clear h0_ h1_ h2_ h3_ h4_ h5_ h6_ h7_
                    have HO121 := n0_
                    have BK118 := n1_
                    have BK137 := n2_
                    have GW137 := n3_
                    have GE137 := n4_
                    have NB118_137 := n5_
                    have NB137_118 := n6_
                    have HB := n7_
                    clear n0_ n1_ n2_ n3_ n4_ n5_ n6_ n7_
                    have hHeld : w62.cell? ad122 = some (.string (rdOf ByteArray.empty t119 0)) ∧ w62.cell? ⟨ad122.block, ad122.off + 2, none⟩ = some (.string (rdOf ByteArray.empty t119 2)) ∧ w62.cell? ⟨ad122.block, ad122.off + 3, none⟩ = some (.string (rdOf ByteArray.empty t119 3)) ∧ w62.cell? ⟨ad122.block, ad122.off + 4, none⟩ = some (.string (rdOf ByteArray.empty t119 4)) ∧ w62.cell? ⟨ad122.block, ad122.off + 5, none⟩ = some (.string (rdOf ByteArray.empty t119 5)) ∧ w62.cell? ⟨ad122.block, ad122.off + 6, none⟩ = some (.string (rdOf ByteArray.empty t119 6)) := hS_
                    refine norm_ (a' := ?_) ?_ ?_
                    rotate_left
                    ·simp only [putAll, Act.put, List.setIfInBounds_toArray, List.set_cons_zero, List.set_cons_succ]
                     rfl
                    refine one_ (i := 12) (N := some 33) #[true, true, true, true, true, true, true, true, true, true, true, true, true, true, true, true, false, true, true, true, false, true, true, true, false, false, true, false] rfl rfl (one_of HT_.out (by kernel_rfl)) (by decide) (fun K hK => ?_)
                    refine goes_ Tryd.func30 (by kernel_rfl) rfl #[.string (rdOf ByteArray.empty t119 3)] (by rfl) rfl rfl (by (try simp only [List.map_toArray, List.map_cons, List.map_nil]); first | done | rfl | (simp only [List.length_drop, List.length_take]; rfl)) ?_
                    with_reducible refine (note_number.calls k (rdOf ByteArray.empty t119 3) t130 _ A11.out).mono ?_
                    rintro e w' ⟨rfl, ⟨nd, rfl⟩⟩
                    refine ⟨_, rfl, ?_⟩
                    refine hK.out _ _ ⟨hHeld.1, hHeld.2.1, hHeld.2.2.1, hHeld.2.2.2.1, hHeld.2.2.2.2.1, hHeld.2.2.2.2.2⟩ (fun hHeld => ?_)
                    clear hK K
                    refine norm_ (a' := ?_) ?_ ?_
                    rotate_left
                    ·show Act.put _ (some 33) _ = _
                     simp only [Act.put, List.setIfInBounds_toArray, List.set_cons_zero, List.set_cons_succ, i64_w, i32_w]
                     rfl
                    exact norm_ (by first | (simp only [putAll, Act.put, List.setIfInBounds_toArray, List.set_cons_zero, List.set_cons_succ]; done) | (simp only [putAll, Act.put, List.setIfInBounds_toArray, List.set_cons_zero, List.set_cons_succ]; rfl)) (hJ3_8_12_26 (gb137) _ ⟨hHeld, (by (with_reducible repeat (first | apply Kd.R_alloc | apply Kd.R_drewN | apply Kd.R_drew)); exact HO121.out), (by (with_reducible repeat (first | refine blk_drewN ?_ _ | refine blk_drew ?_ | refine blk_alloc ?_ _)); exact BK118.out), (by (with_reducible repeat (first | refine blk_drewN ?_ _ | refine blk_drew ?_ | refine blk_alloc ?_ _)); exact BK137.out), GW137.out, GE137.out, NB118_137.out, NB137_118.out, (by repeat (first | (with_reducible first | exact HB.out | apply below_alloc | apply pw_below_drewN | apply below_drew1 | refine below_set ?_ GE118.out | refine below_set ?_ GE137.out) | exact HB.out))⟩)
                  ·skip
                   rintro _ w61 ⟨hS_, h0_, h1_, h2_⟩
                   have n0_ : Aside0 (Kd.R Kd.string 9 w61 w.heap.size (fun _ => True) (.slice (some ad122) t119.length co58) t119) := ⟨h0_⟩
                   have n1_ : Aside0 (w61.heap[gb118]? = some (.cells #[.int .i64 0, .int .u64 0, .int .i64 0, .int .i64 0, .int .i64 0, .int .i64 0, .int .i64 0] 24 (0, 0))) := ⟨h1_⟩
                   have n2_ : Aside0 (Below w.heap.size w w61) := ⟨h2_⟩
                   clear HO121
                   clear BK118
                   clear HB
                   clear h0_ h1_ h2_
                   have HO121 := n0_
                   have BK118 := n1_
                   have HB := n2_
                   clear n0_ n1_ n2_
                   have hHeld : w61.cell? ad122 = some (.string (rdOf ByteArray.empty t119 0)) ∧ w61.cell? ⟨ad122.block, ad122.off + 2, none⟩ = some (.string (rdOf ByteArray.empty t119 2)) ∧ w61.cell? ⟨ad122.block, ad122.off + 3, none⟩ = some (.string (rdOf ByteArray.empty t119 3)) ∧ w61.cell? ⟨ad122.block, ad122.off + 4, none⟩ = some (.string (rdOf ByteArray.empty t119 4)) ∧ w61.cell? ⟨ad122.block, ad122.off + 5, none⟩ = some (.string (rdOf ByteArray.empty t119 5)) ∧ w61.cell? ⟨ad122.block, ad122.off + 6, none⟩ = some (.string (rdOf ByteArray.empty t119 6)) := hS_
                   refine norm_ (a' := ?_) ?_ ?_
                   rotate_left
                   ·simp only [putAll, Act.put, List.setIfInBounds_toArray, List.set_cons_zero, List.set_cons_succ]
                    rfl
                   refine two_ (i := 16) (j := 26) (Ni := some 37) (Nj := some 7) #[true, true, true, true, true, true, true, true, true, true, true, true, true, true, true, true, true, true, true, true, false, true, true, true, false, false, false, false] #[true, true, true, true, true, true, true, true, true, true, true, true, true, true, true, true, false, true, true, true, false, true, true, true, false, false, true, false] rfl rfl rfl rfl (two_of HT_.out (by kernel_rfl)) (by decide) (by decide) (fun K hK => ?_) (fun K hK => ?_)
                   ·skip
                    refine goes_ Tryd.func30 (by kernel_rfl) rfl #[.string (rdOf ByteArray.empty t119 4)] (by rfl) rfl rfl (by (try simp only [List.map_toArray, List.map_cons, List.map_nil]); first | done | rfl | (simp only [List.length_drop, List.length_take]; rfl)) ?_
                    with_reducible refine (note_number.calls k (rdOf ByteArray.empty t119 4) t132 _ A13.out).mono ?_
                    rintro e w' ⟨rfl, ⟨nd, rfl⟩⟩
                    refine ⟨_, rfl, ?_⟩
                    refine hK.out _ _ ⟨hHeld.1, hHeld.2.1, hHeld.2.2.1, hHeld.2.2.2.1, hHeld.2.2.2.2.1, hHeld.2.2.2.2.2⟩ (fun hHeld => ?_)
                    clear hK K
                    refine norm_ (a' := ?_) ?_ ?_
                    rotate_left
                    ·show Act.put _ (some 37) _ = _
                     simp only [Act.put, List.setIfInBounds_toArray, List.set_cons_zero, List.set_cons_succ, i64_w, i32_w]
                     rfl
                    exact norm_ (by first | (simp only [putAll, Act.put, List.setIfInBounds_toArray, List.set_cons_zero, List.set_cons_succ]; done) | (simp only [putAll, Act.put, List.setIfInBounds_toArray, List.set_cons_zero, List.set_cons_succ]; rfl)) (hJ3_8_12_16 () _ ⟨hHeld, (by (with_reducible repeat (first | apply Kd.R_alloc | apply Kd.R_drewN | apply Kd.R_drew)); exact HO121.out), (by (with_reducible repeat (first | refine blk_drewN ?_ _ | refine blk_drew ?_ | refine blk_alloc ?_ _)); exact BK118.out), (by repeat (first | (with_reducible first | exact HB.out | apply below_alloc | apply pw_below_drewN | apply below_drew1 | refine below_set ?_ GE118.out) | exact HB.out))⟩)
                   ·skip
                    refine box_step ?hg (N := 7) ?hd (cs := #[.int .i64 0, .int .u64 0, .int .i64 0, .int .i64 0, .int .i64 0, .int .i64 0, .int .i64 0]) (t := 24) ?hr ?_; (case hd => rfl); (case hg => rfl); (case hr => first | (go_simp; done) | (go_simp; rfl))
                    intro gb137 hg w62 hbox hb
                    have HS0_ := (hb.cell (World.block_lt_of_cell? _ _ (hHeld.1))).trans (hHeld.1)
                    have HS1_ := (hb.cell (World.block_lt_of_cell? _ _ (hHeld.2.1))).trans (hHeld.2.1)
                    have HS2_ := (hb.cell (World.block_lt_of_cell? _ _ (hHeld.2.2.1))).trans (hHeld.2.2.1)
                    have HS3_ := (hb.cell (World.block_lt_of_cell? _ _ (hHeld.2.2.2.1))).trans (hHeld.2.2.2.1)
                    have HS4_ := (hb.cell (World.block_lt_of_cell? _ _ (hHeld.2.2.2.2.1))).trans (hHeld.2.2.2.2.1)
                    have HS5_ := (hb.cell (World.block_lt_of_cell? _ _ (hHeld.2.2.2.2.2))).trans (hHeld.2.2.2.2.2)
                    have n0_ := Aside0.mk (Kd.R_below (by (with_reducible repeat (first | apply Kd.R_alloc | apply Kd.R_drewN | apply Kd.R_drew)); exact HO121.out) hb)
                    have n1_ := Aside0.mk (blk_below (g := gb118) (o := .cells #[.int .i64 0, .int .u64 0, .int .i64 0, .int .i64 0, .int .i64 0, .int .i64 0, .int .i64 0] 24 (0, 0)) (by (with_reducible repeat (first | refine blk_drewN ?_ _ | refine blk_drew ?_ | refine blk_alloc ?_ _)); exact BK118.out) hb)
                    have n2_ := Aside0.mk (below_step (by repeat (first | (with_reducible first | exact HB.out | apply below_alloc | apply pw_below_drewN | apply below_drew1 | refine below_set ?_ GE118.out) | exact HB.out)) hb)
                    have n3_ := Aside0.mk (hbox)
                    have n4_ := Aside0.mk ((by rw [hg]; exact (below_size (by repeat (first | (with_reducible first | exact HB.out | apply below_alloc | apply pw_below_drewN | apply below_drew1 | refine below_set ?_ GE118.out) | exact HB.out))) : w.heap.size ≤ gb137))
                    have n5_ := Aside0.mk ((by rw [hg]; exact (below_size (by repeat (first | (with_reducible first | exact HB.out | apply below_alloc | apply pw_below_drewN | apply below_drew1 | refine below_set ?_ GE118.out) | exact HB.out))) : w.heap.size ≤ gb137))
                    have n6_ := Aside0.mk ((by rw [hg]; exact Nat.ne_of_lt (blk_lt (g := gb118) (o := .cells #[.int .i64 0, .int .u64 0, .int .i64 0, .int .i64 0, .int .i64 0, .int .i64 0, .int .i64 0] 24 (0, 0)) (by (with_reducible repeat (first | refine blk_drewN ?_ _ | refine blk_drew ?_ | refine blk_alloc ?_ _)); exact BK118.out)) : gb118 ≠ gb137))
                    have n7_ := Aside0.mk ((by rw [hg]; exact Nat.ne_of_gt (blk_lt (g := gb118) (o := .cells #[.int .i64 0, .int .u64 0, .int .i64 0, .int .i64 0, .int .i64 0, .int .i64 0, .int .i64 0] 24 (0, 0)) (by (with_reducible repeat (first | refine blk_drewN ?_ _ | refine blk_drew ?_ | refine blk_alloc ?_ _)); exact BK118.out)) : gb137 ≠ gb118))
                    clear HO121
                    clear BK118
                    clear HB
                    have HO121 := n0_
                    have BK118 := n1_
                    have HB := n2_
                    have BK137 := n3_
                    have GW137 := n4_
                    have GE137 := n5_
                    have NB118_137 := n6_
                    have NB137_118 := n7_
                    clear n0_ n1_ n2_ n3_ n4_ n5_ n6_ n7_
                    clear hb hbox hg
                    refine hK.out _ _ ⟨HS0_, HS1_, HS2_, HS3_, HS4_, HS5_⟩ (fun hHeld => ?_)
                    clear hK K
                    refine norm_ (a' := ?_) ?_ ?_
                    rotate_left
                    ·show Act.put _ (some 7) _ = _
                     simp only [Act.put, List.setIfInBounds_toArray, List.set_cons_zero, List.set_cons_succ, i64_w, i32_w]
                     rfl
                    exact norm_ (by first | (simp only [putAll, Act.put, List.setIfInBounds_toArray, List.set_cons_zero, List.set_cons_succ]; done) | (simp only [putAll, Act.put, List.setIfInBounds_toArray, List.set_cons_zero, List.set_cons_succ]; rfl)) (hJ3_8_12_26 (gb137) _ ⟨hHeld, (by (with_reducible repeat (first | apply Kd.R_alloc | apply Kd.R_drewN | apply Kd.R_drew)); exact HO121.out), (by (with_reducible repeat (first | refine blk_drewN ?_ _ | refine blk_drew ?_ | refine blk_alloc ?_ _)); exact BK118.out), (by (with_reducible repeat (first | refine blk_drewN ?_ _ | refine blk_drew ?_ | refine blk_alloc ?_ _)); exact BK137.out), GW137.out, GE137.out, NB118_137.out, NB137_118.out, (by repeat (first | (with_reducible first | exact HB.out | apply below_alloc | apply pw_below_drewN | apply below_drew1 | refine below_set ?_ GE118.out | refine below_set ?_ GE137.out) | exact HB.out))⟩)
                 ·skip
                  rintro gb137 w62 ⟨hS_, h0_, h1_, h2_, h3_, h4_, h5_, h6_, h7_⟩
                  have n0_ : Aside0 (Kd.R Kd.string 9 w62 w.heap.size (fun _ => True) (.slice (some ad122) t119.length co58) t119) := ⟨h0_⟩
                  have n1_ : Aside0 (w62.heap[gb118]? = some (.cells #[.int .i64 0, .int .u64 0, .int .i64 0, .int .i64 0, .int .i64 0, .int .i64 0, .int .i64 0] 24 (0, 0))) := ⟨h1_⟩
                  have n2_ : Aside0 (w62.heap[gb137]? = some (.cells #[.int .i64 0, .int .u64 0, .int .i64 0, .int .i64 0, .int .i64 0, .int .i64 0, .int .i64 0] 24 (0, 0))) := ⟨h2_⟩
                  have n3_ : Aside0 (w.heap.size ≤ gb137) := ⟨h3_⟩
                  have n4_ : Aside0 (w.heap.size ≤ gb137) := ⟨h4_⟩
                  have n5_ : Aside0 (gb118 ≠ gb137) := ⟨h5_⟩
                  have n6_ : Aside0 (gb137 ≠ gb118) := ⟨h6_⟩
                  have n7_ : Aside0 (Below w.heap.size w w62) := ⟨h7_⟩
                  clear HO121
                  clear BK118
                  clear HB
                  clear h0_ h1_ h2_ h3_ h4_ h5_ h6_ h7_
                  have HO121 := n0_
                  have BK118 := n1_
                  have BK137 := n2_
                  have GW137 := n3_
                  have GE137 := n4_
                  have NB118_137 := n5_
                  have NB137_118 := n6_
                  have HB := n7_
                  clear n0_ n1_ n2_ n3_ n4_ n5_ n6_ n7_
                  have hHeld : w62.cell? ad122 = some (.string (rdOf ByteArray.empty t119 0)) ∧ w62.cell? ⟨ad122.block, ad122.off + 2, none⟩ = some (.string (rdOf ByteArray.empty t119 2)) ∧ w62.cell? ⟨ad122.block, ad122.off + 3, none⟩ = some (.string (rdOf ByteArray.empty t119 3)) ∧ w62.cell? ⟨ad122.block, ad122.off + 4, none⟩ = some (.string (rdOf ByteArray.empty t119 4)) ∧ w62.cell? ⟨ad122.block, ad122.off + 5, none⟩ = some (.string (rdOf ByteArray.empty t119 5)) ∧ w62.cell? ⟨ad122.block, ad122.off + 6, none⟩ = some (.string (rdOf ByteArray.empty t119 6)) := hS_
                  refine norm_ (a' := ?_) ?_ ?_
                  rotate_left
                  ·simp only [putAll, Act.put, List.setIfInBounds_toArray, List.set_cons_zero, List.set_cons_succ]
                   rfl
                  refine one_ (i := 16) (N := some 37) #[true, true, true, true, true, true, true, true, true, true, true, true, true, true, true, true, true, true, true, true, false, true, true, true, false, false, true, false] rfl rfl (one_of HT_.out (by kernel_rfl)) (by decide) (fun K hK => ?_)
                  refine goes_ Tryd.func30 (by kernel_rfl) rfl #[.string (rdOf ByteArray.empty t119 4)] (by rfl) rfl rfl (by (try simp only [List.map_toArray, List.map_cons, List.map_nil]); first | done | rfl | (simp only [List.length_drop, List.length_take]; rfl)) ?_
                  with_reducible refine (note_number.calls k (rdOf ByteArray.empty t119 4) t132 _ A13.out).mono ?_
                  rintro e w' ⟨rfl, ⟨nd, rfl⟩⟩
                  refine ⟨_, rfl, ?_⟩
                  refine hK.out _ _ ⟨hHeld.1, hHeld.2.1, hHeld.2.2.1, hHeld.2.2.2.1, hHeld.2.2.2.2.1, hHeld.2.2.2.2.2⟩ (fun hHeld => ?_)
                  clear hK K
                  refine norm_ (a' := ?_) ?_ ?_
                  rotate_left
                  ·show Act.put _ (some 37) _ = _
                   simp only [Act.put, List.setIfInBounds_toArray, List.set_cons_zero, List.set_cons_succ, i64_w, i32_w]
                   rfl
                  exact norm_ (by first | (simp only [putAll, Act.put, List.setIfInBounds_toArray, List.set_cons_zero, List.set_cons_succ]; done) | (simp only [putAll, Act.put, List.setIfInBounds_toArray, List.set_cons_zero, List.set_cons_succ]; rfl)) (hJ3_8_12_16_26 (gb137) _ ⟨hHeld, (by (with_reducible repeat (first | apply Kd.R_alloc | apply Kd.R_drewN | apply Kd.R_drew)); exact HO121.out), (by (with_reducible repeat (first | refine blk_drewN ?_ _ | refine blk_drew ?_ | refine blk_alloc ?_ _)); exact BK118.out), (by (with_reducible repeat (first | refine blk_drewN ?_ _ | refine blk_drew ?_ | refine blk_alloc ?_ _)); exact BK137.out), GW137.out, GE137.out, NB118_137.out, NB137_118.out, (by repeat (first | (with_reducible first | exact HB.out | apply below_alloc | apply pw_below_drewN | apply below_drew1 | refine below_set ?_ GE118.out | refine below_set ?_ GE137.out) | exact HB.out))⟩)
                ·skip
                 rintro _ w61 ⟨hS_, h0_, h1_, h2_⟩
                 have n0_ : Aside0 (Kd.R Kd.string 9 w61 w.heap.size (fun _ => True) (.slice (some ad122) t119.length co58) t119) := ⟨h0_⟩
                 have n1_ : Aside0 (w61.heap[gb118]? = some (.cells #[.int .i64 0, .int .u64 0, .int .i64 0, .int .i64 0, .int .i64 0, .int .i64 0, .int .i64 0] 24 (0, 0))) := ⟨h1_⟩
                 have n2_ : Aside0 (Below w.heap.size w w61) := ⟨h2_⟩
                 clear HO121
                 clear BK118
                 clear HB
                 clear h0_ h1_ h2_
                 have HO121 := n0_
                 have BK118 := n1_
                 have HB := n2_
                 clear n0_ n1_ n2_
                 have hHeld : w61.cell? ad122 = some (.string (rdOf ByteArray.empty t119 0)) ∧ w61.cell? ⟨ad122.block, ad122.off + 2, none⟩ = some (.string (rdOf ByteArray.empty t119 2)) ∧ w61.cell? ⟨ad122.block, ad122.off + 3, none⟩ = some (.string (rdOf ByteArray.empty t119 3)) ∧ w61.cell? ⟨ad122.block, ad122.off + 4, none⟩ = some (.string (rdOf ByteArray.empty t119 4)) ∧ w61.cell? ⟨ad122.block, ad122.off + 5, none⟩ = some (.string (rdOf ByteArray.empty t119 5)) ∧ w61.cell? ⟨ad122.block, ad122.off + 6, none⟩ = some (.string (rdOf ByteArray.empty t119 6)) := hS_
                 refine norm_ (a' := ?_) ?_ ?_
                 rotate_left
                 ·simp only [putAll, Act.put, List.setIfInBounds_toArray, List.set_cons_zero, List.set_cons_succ]
                  rfl
                 refine two_ (i := 20) (j := 26) (Ni := some 41) (Nj := some 7) #[true, true, true, true, true, true, true, true, true, true, true, true, true, true, true, true, true, true, true, true, true, true, true, true, false, false, false, false] #[true, true, true, true, true, true, true, true, true, true, true, true, true, true, true, true, true, true, true, true, false, true, true, true, false, false, true, false] rfl rfl rfl rfl (two_of HT_.out (by kernel_rfl)) (by decide) (by decide) (fun K hK => ?_) (fun K hK => ?_)
                 ·skip
                  refine goes_ Tryd.func30 (by kernel_rfl) rfl #[.string (rdOf ByteArray.empty t119 5)] (by rfl) rfl rfl (by (try simp only [List.map_toArray, List.map_cons, List.map_nil]); first | done | rfl | (simp only [List.length_drop, List.length_take]; rfl)) ?_
                  with_reducible refine (note_number.calls k (rdOf ByteArray.empty t119 5) t134 _ A15.out).mono ?_
                  rintro e w' ⟨rfl, ⟨nd, rfl⟩⟩
                  refine ⟨_, rfl, ?_⟩
                  refine hK.out _ _ ⟨hHeld.1, hHeld.2.1, hHeld.2.2.1, hHeld.2.2.2.1, hHeld.2.2.2.2.1, hHeld.2.2.2.2.2⟩ (fun hHeld => ?_)
                  clear hK K
                  refine norm_ (a' := ?_) ?_ ?_
                  rotate_left
                  ·show Act.put _ (some 41) _ = _
                   simp only [Act.put, List.setIfInBounds_toArray, List.set_cons_zero, List.set_cons_succ, i64_w, i32_w]
                   rfl
                  exact norm_ (by first | (simp only [putAll, Act.put, List.setIfInBounds_toArray, List.set_cons_zero, List.set_cons_succ]; done) | (simp only [putAll, Act.put, List.setIfInBounds_toArray, List.set_cons_zero, List.set_cons_succ]; rfl)) (hJ3_8_12_16_20 () _ ⟨hHeld, (by (with_reducible repeat (first | apply Kd.R_alloc | apply Kd.R_drewN | apply Kd.R_drew)); exact HO121.out), (by (with_reducible repeat (first | refine blk_drewN ?_ _ | refine blk_drew ?_ | refine blk_alloc ?_ _)); exact BK118.out), (by repeat (first | (with_reducible first | exact HB.out | apply below_alloc | apply pw_below_drewN | apply below_drew1 | refine below_set ?_ GE118.out) | exact HB.out))⟩)
                 ·skip
                  refine box_step ?hg (N := 7) ?hd (cs := #[.int .i64 0, .int .u64 0, .int .i64 0, .int .i64 0, .int .i64 0, .int .i64 0, .int .i64 0]) (t := 24) ?hr ?_; (case hd => rfl); (case hg => rfl); (case hr => first | (go_simp; done) | (go_simp; rfl))
                  intro gb137 hg w62 hbox hb
                  have HS0_ := (hb.cell (World.block_lt_of_cell? _ _ (hHeld.1))).trans (hHeld.1)
                  have HS1_ := (hb.cell (World.block_lt_of_cell? _ _ (hHeld.2.1))).trans (hHeld.2.1)
                  have HS2_ := (hb.cell (World.block_lt_of_cell? _ _ (hHeld.2.2.1))).trans (hHeld.2.2.1)
                  have HS3_ := (hb.cell (World.block_lt_of_cell? _ _ (hHeld.2.2.2.1))).trans (hHeld.2.2.2.1)
                  have HS4_ := (hb.cell (World.block_lt_of_cell? _ _ (hHeld.2.2.2.2.1))).trans (hHeld.2.2.2.2.1)
                  have HS5_ := (hb.cell (World.block_lt_of_cell? _ _ (hHeld.2.2.2.2.2))).trans (hHeld.2.2.2.2.2)
                  have n0_ := Aside0.mk (Kd.R_below (by (with_reducible repeat (first | apply Kd.R_alloc | apply Kd.R_drewN | apply Kd.R_drew)); exact HO121.out) hb)
                  have n1_ := Aside0.mk (blk_below (g := gb118) (o := .cells #[.int .i64 0, .int .u64 0, .int .i64 0, .int .i64 0, .int .i64 0, .int .i64 0, .int .i64 0] 24 (0, 0)) (by (with_reducible repeat (first | refine blk_drewN ?_ _ | refine blk_drew ?_ | refine blk_alloc ?_ _)); exact BK118.out) hb)
                  have n2_ := Aside0.mk (below_step (by repeat (first | (with_reducible first | exact HB.out | apply below_alloc | apply pw_below_drewN | apply below_drew1 | refine below_set ?_ GE118.out) | exact HB.out)) hb)
                  have n3_ := Aside0.mk (hbox)
                  have n4_ := Aside0.mk ((by rw [hg]; exact (below_size (by repeat (first | (with_reducible first | exact HB.out | apply below_alloc | apply pw_below_drewN | apply below_drew1 | refine below_set ?_ GE118.out) | exact HB.out))) : w.heap.size ≤ gb137))
                  have n5_ := Aside0.mk ((by rw [hg]; exact (below_size (by repeat (first | (with_reducible first | exact HB.out | apply below_alloc | apply pw_below_drewN | apply below_drew1 | refine below_set ?_ GE118.out) | exact HB.out))) : w.heap.size ≤ gb137))
                  have n6_ := Aside0.mk ((by rw [hg]; exact Nat.ne_of_lt (blk_lt (g := gb118) (o := .cells #[.int .i64 0, .int .u64 0, .int .i64 0, .int .i64 0, .int .i64 0, .int .i64 0, .int .i64 0] 24 (0, 0)) (by (with_reducible repeat (first | refine blk_drewN ?_ _ | refine blk_drew ?_ | refine blk_alloc ?_ _)); exact BK118.out)) : gb118 ≠ gb137))
                  have n7_ := Aside0.mk ((by rw [hg]; exact Nat.ne_of_gt (blk_lt (g := gb118) (o := .cells #[.int .i64 0, .int .u64 0, .int .i64 0, .int .i64 0, .int .i64 0, .int .i64 0, .int .i64 0] 24 (0, 0)) (by (with_reducible repeat (first | refine blk_drewN ?_ _ | refine blk_drew ?_ | refine blk_alloc ?_ _)); exact BK118.out)) : gb137 ≠ gb118))
                  clear HO121
                  clear BK118
                  clear HB
                  have HO121 := n0_
                  have BK118 := n1_
                  have HB := n2_
                  have BK137 := n3_
                  have GW137 := n4_
                  have GE137 := n5_
                  have NB118_137 := n6_
                  have NB137_118 := n7_
                  clear n0_ n1_ n2_ n3_ n4_ n5_ n6_ n7_
                  clear hb hbox hg
                  refine hK.out _ _ ⟨HS0_, HS1_, HS2_, HS3_, HS4_, HS5_⟩ (fun hHeld => ?_)
                  clear hK K
                  refine norm_ (a' := ?_) ?_ ?_
                  rotate_left
                  ·show Act.put _ (some 7) _ = _
                   simp only [Act.put, List.setIfInBounds_toArray, List.set_cons_zero, List.set_cons_succ, i64_w, i32_w]
                   rfl
                  exact norm_ (by first | (simp only [putAll, Act.put, List.setIfInBounds_toArray, List.set_cons_zero, List.set_cons_succ]; done) | (simp only [putAll, Act.put, List.setIfInBounds_toArray, List.set_cons_zero, List.set_cons_succ]; rfl)) (hJ3_8_12_16_26 (gb137) _ ⟨hHeld, (by (with_reducible repeat (first | apply Kd.R_alloc | apply Kd.R_drewN | apply Kd.R_drew)); exact HO121.out), (by (with_reducible repeat (first | refine blk_drewN ?_ _ | refine blk_drew ?_ | refine blk_alloc ?_ _)); exact BK118.out), (by (with_reducible repeat (first | refine blk_drewN ?_ _ | refine blk_drew ?_ | refine blk_alloc ?_ _)); exact BK137.out), GW137.out, GE137.out, NB118_137.out, NB137_118.out, (by repeat (first | (with_reducible first | exact HB.out | apply below_alloc | apply pw_below_drewN | apply below_drew1 | refine below_set ?_ GE118.out | refine below_set ?_ GE137.out) | exact HB.out))⟩)
               ·skip
                rintro gb137 w62 ⟨hS_, h0_, h1_, h2_, h3_, h4_, h5_, h6_, h7_⟩
                have n0_ : Aside0 (Kd.R Kd.string 9 w62 w.heap.size (fun _ => True) (.slice (some ad122) t119.length co58) t119) := ⟨h0_⟩
                have n1_ : Aside0 (w62.heap[gb118]? = some (.cells #[.int .i64 0, .int .u64 0, .int .i64 0, .int .i64 0, .int .i64 0, .int .i64 0, .int .i64 0] 24 (0, 0))) := ⟨h1_⟩
                have n2_ : Aside0 (w62.heap[gb137]? = some (.cells #[.int .i64 0, .int .u64 0, .int .i64 0, .int .i64 0, .int .i64 0, .int .i64 0, .int .i64 0] 24 (0, 0))) := ⟨h2_⟩
                have n3_ : Aside0 (w.heap.size ≤ gb137) := ⟨h3_⟩
                have n4_ : Aside0 (w.heap.size ≤ gb137) := ⟨h4_⟩
                have n5_ : Aside0 (gb118 ≠ gb137) := ⟨h5_⟩
                have n6_ : Aside0 (gb137 ≠ gb118) := ⟨h6_⟩
                have n7_ : Aside0 (Below w.heap.size w w62) := ⟨h7_⟩
                clear HO121
                clear BK118
                clear HB
                clear h0_ h1_ h2_ h3_ h4_ h5_ h6_ h7_
                have HO121 := n0_
                have BK118 := n1_
                have BK137 := n2_
                have GW137 := n3_
                have GE137 := n4_
                have NB118_137 := n5_
                have NB137_118 := n6_
                have HB := n7_
                clear n0_ n1_ n2_ n3_ n4_ n5_ n6_ n7_
                have hHeld : w62.cell? ad122 = some (.string (rdOf ByteArray.empty t119 0)) ∧ w62.cell? ⟨ad122.block, ad122.off + 2, none⟩ = some (.string (rdOf ByteArray.empty t119 2)) ∧ w62.cell? ⟨ad122.block, ad122.off + 3, none⟩ = some (.string (rdOf ByteArray.empty t119 3)) ∧ w62.cell? ⟨ad122.block, ad122.off + 4, none⟩ = some (.string (rdOf ByteArray.empty t119 4)) ∧ w62.cell? ⟨ad122.block, ad122.off + 5, none⟩ = some (.string (rdOf ByteArray.empty t119 5)) ∧ w62.cell? ⟨ad122.block, ad122.off + 6, none⟩ = some (.string (rdOf ByteArray.empty t119 6)) := hS_
                refine norm_ (a' := ?_) ?_ ?_
                rotate_left
                ·simp only [putAll, Act.put, List.setIfInBounds_toArray, List.set_cons_zero, List.set_cons_succ]
                 rfl
                refine one_ (i := 20) (N := some 41) #[true, true, true, true, true, true, true, true, true, true, true, true, true, true, true, true, true, true, true, true, true, true, true, true, false, false, true, false] rfl rfl (one_of HT_.out (by kernel_rfl)) (by decide) (fun K hK => ?_)
                refine goes_ Tryd.func30 (by kernel_rfl) rfl #[.string (rdOf ByteArray.empty t119 5)] (by rfl) rfl rfl (by (try simp only [List.map_toArray, List.map_cons, List.map_nil]); first | done | rfl | (simp only [List.length_drop, List.length_take]; rfl)) ?_
                with_reducible refine (note_number.calls k (rdOf ByteArray.empty t119 5) t134 _ A15.out).mono ?_
                rintro e w' ⟨rfl, ⟨nd, rfl⟩⟩
                refine ⟨_, rfl, ?_⟩
                refine hK.out _ _ ⟨hHeld.1, hHeld.2.1, hHeld.2.2.1, hHeld.2.2.2.1, hHeld.2.2.2.2.1, hHeld.2.2.2.2.2⟩ (fun hHeld => ?_)
                clear hK K
                refine norm_ (a' := ?_) ?_ ?_
                rotate_left
                ·show Act.put _ (some 41) _ = _
                 simp only [Act.put, List.setIfInBounds_toArray, List.set_cons_zero, List.set_cons_succ, i64_w, i32_w]
                 rfl
                exact norm_ (by first | (simp only [putAll, Act.put, List.setIfInBounds_toArray, List.set_cons_zero, List.set_cons_succ]; done) | (simp only [putAll, Act.put, List.setIfInBounds_toArray, List.set_cons_zero, List.set_cons_succ]; rfl)) (hJ3_8_12_16_20_26 (gb137) _ ⟨hHeld, (by (with_reducible repeat (first | apply Kd.R_alloc | apply Kd.R_drewN | apply Kd.R_drew)); exact HO121.out), (by (with_reducible repeat (first | refine blk_drewN ?_ _ | refine blk_drew ?_ | refine blk_alloc ?_ _)); exact BK118.out), (by (with_reducible repeat (first | refine blk_drewN ?_ _ | refine blk_drew ?_ | refine blk_alloc ?_ _)); exact BK137.out), GW137.out, GE137.out, NB118_137.out, NB137_118.out, (by repeat (first | (with_reducible first | exact HB.out | apply below_alloc | apply pw_below_drewN | apply below_drew1 | refine below_set ?_ GE118.out | refine below_set ?_ GE137.out) | exact HB.out))⟩)
              ·skip
               rintro _ w61 ⟨hS_, h0_, h1_, h2_⟩
               have n0_ : Aside0 (Kd.R Kd.string 9 w61 w.heap.size (fun _ => True) (.slice (some ad122) t119.length co58) t119) := ⟨h0_⟩
               have n1_ : Aside0 (w61.heap[gb118]? = some (.cells #[.int .i64 0, .int .u64 0, .int .i64 0, .int .i64 0, .int .i64 0, .int .i64 0, .int .i64 0] 24 (0, 0))) := ⟨h1_⟩
               have n2_ : Aside0 (Below w.heap.size w w61) := ⟨h2_⟩
               clear HO121
               clear BK118
               clear HB
               clear h0_ h1_ h2_
               have HO121 := n0_
               have BK118 := n1_
               have HB := n2_
               clear n0_ n1_ n2_
               have hHeld : w61.cell? ad122 = some (.string (rdOf ByteArray.empty t119 0)) ∧ w61.cell? ⟨ad122.block, ad122.off + 2, none⟩ = some (.string (rdOf ByteArray.empty t119 2)) ∧ w61.cell? ⟨ad122.block, ad122.off + 3, none⟩ = some (.string (rdOf ByteArray.empty t119 3)) ∧ w61.cell? ⟨ad122.block, ad122.off + 4, none⟩ = some (.string (rdOf ByteArray.empty t119 4)) ∧ w61.cell? ⟨ad122.block, ad122.off + 5, none⟩ = some (.string (rdOf ByteArray.empty t119 5)) ∧ w61.cell? ⟨ad122.block, ad122.off + 6, none⟩ = some (.string (rdOf ByteArray.empty t119 6)) := hS_
               refine norm_ (a' := ?_) ?_ ?_
               rotate_left
               ·simp only [putAll, Act.put, List.setIfInBounds_toArray, List.set_cons_zero, List.set_cons_succ]
                rfl
               refine two_ (i := 24) (j := 26) (Ni := some 45) (Nj := some 7) #[true, true, true, true, true, true, true, true, true, true, true, true, true, true, true, true, true, true, true, true, true, true, true, true, true, false, false, false] #[true, true, true, true, true, true, true, true, true, true, true, true, true, true, true, true, true, true, true, true, true, true, true, true, false, false, true, false] rfl rfl rfl rfl (two_of HT_.out (by kernel_rfl)) (by decide) (by decide) (fun K hK => ?_) (fun K hK => ?_)
               ·skip
                refine goes_ Tryd.func30 (by kernel_rfl) rfl #[.string (rdOf ByteArray.empty t119 6)] (by rfl) rfl rfl (by (try simp only [List.map_toArray, List.map_cons, List.map_nil]); first | done | rfl | (simp only [List.length_drop, List.length_take]; rfl)) ?_
                with_reducible refine (note_number.calls k (rdOf ByteArray.empty t119 6) t136 _ A17.out).mono ?_
                rintro e w' ⟨rfl, ⟨nd, rfl⟩⟩
                refine ⟨_, rfl, ?_⟩
                refine hK.out _ _ ⟨hHeld.1, hHeld.2.1, hHeld.2.2.1, hHeld.2.2.2.1, hHeld.2.2.2.2.1, hHeld.2.2.2.2.2⟩ (fun hHeld => ?_)
                clear hK K
                refine norm_ (a' := ?_) ?_ ?_
                rotate_left
                ·show Act.put _ (some 45) _ = _
                 simp only [Act.put, List.setIfInBounds_toArray, List.set_cons_zero, List.set_cons_succ, i64_w, i32_w]
                 rfl
                refine pure_ (i := 25) (N := some 46) (v := ?_) (a' := ?_) #[true, true, true, true, true, true, true, true, true, true, true, true, true, true, true, true, true, true, true, true, true, true, true, true, true, true, false, false] rfl rfl (any_of HT_.out (by kernel_rfl)) (fun _ _ _ h => h) (Or.inl ⟨by rfl, ?_⟩) ?_ ?_
                rotate_left
                ·intro w'
                 go_simp
                 with_reducible rfl
                rotate_left
                ·simp only [Act.put, List.setIfInBounds_toArray, List.set_cons_zero, List.set_cons_succ, i64_w, i32_w]
                 rfl
                exact norm_ (by first | (simp only [putAll, Act.put, List.setIfInBounds_toArray, List.set_cons_zero, List.set_cons_succ]; done) | (simp only [putAll, Act.put, List.setIfInBounds_toArray, List.set_cons_zero, List.set_cons_succ]; rfl)) (hJ3_8_12_16_20_24 () _ ⟨hHeld, (by (with_reducible repeat (first | apply Kd.R_alloc | apply Kd.R_drewN | apply Kd.R_drew)); exact HO121.out), (by (with_reducible repeat (first | refine blk_drewN ?_ _ | refine blk_drew ?_ | refine blk_alloc ?_ _)); exact BK118.out), (by repeat (first | (with_reducible first | exact HB.out | apply below_alloc | apply pw_below_drewN | apply below_drew1 | refine below_set ?_ GE118.out) | exact HB.out))⟩)
               ·skip
                refine box_step ?hg (N := 7) ?hd (cs := #[.int .i64 0, .int .u64 0, .int .i64 0, .int .i64 0, .int .i64 0, .int .i64 0, .int .i64 0]) (t := 24) ?hr ?_; (case hd => rfl); (case hg => rfl); (case hr => first | (go_simp; done) | (go_simp; rfl))
                intro gb137 hg w62 hbox hb
                have HS0_ := (hb.cell (World.block_lt_of_cell? _ _ (hHeld.1))).trans (hHeld.1)
                have HS1_ := (hb.cell (World.block_lt_of_cell? _ _ (hHeld.2.1))).trans (hHeld.2.1)
                have HS2_ := (hb.cell (World.block_lt_of_cell? _ _ (hHeld.2.2.1))).trans (hHeld.2.2.1)
                have HS3_ := (hb.cell (World.block_lt_of_cell? _ _ (hHeld.2.2.2.1))).trans (hHeld.2.2.2.1)
                have HS4_ := (hb.cell (World.block_lt_of_cell? _ _ (hHeld.2.2.2.2.1))).trans (hHeld.2.2.2.2.1)
                have HS5_ := (hb.cell (World.block_lt_of_cell? _ _ (hHeld.2.2.2.2.2))).trans (hHeld.2.2.2.2.2)
                have n0_ := Aside0.mk (Kd.R_below (by (with_reducible repeat (first | apply Kd.R_alloc | apply Kd.R_drewN | apply Kd.R_drew)); exact HO121.out) hb)
                have n1_ := Aside0.mk (blk_below (g := gb118) (o := .cells #[.int .i64 0, .int .u64 0, .int .i64 0, .int .i64 0, .int .i64 0, .int .i64 0, .int .i64 0] 24 (0, 0)) (by (with_reducible repeat (first | refine blk_drewN ?_ _ | refine blk_drew ?_ | refine blk_alloc ?_ _)); exact BK118.out) hb)
                have n2_ := Aside0.mk (below_step (by repeat (first | (with_reducible first | exact HB.out | apply below_alloc | apply pw_below_drewN | apply below_drew1 | refine below_set ?_ GE118.out) | exact HB.out)) hb)
                have n3_ := Aside0.mk (hbox)
                have n4_ := Aside0.mk ((by rw [hg]; exact (below_size (by repeat (first | (with_reducible first | exact HB.out | apply below_alloc | apply pw_below_drewN | apply below_drew1 | refine below_set ?_ GE118.out) | exact HB.out))) : w.heap.size ≤ gb137))
                have n5_ := Aside0.mk ((by rw [hg]; exact (below_size (by repeat (first | (with_reducible first | exact HB.out | apply below_alloc | apply pw_below_drewN | apply below_drew1 | refine below_set ?_ GE118.out) | exact HB.out))) : w.heap.size ≤ gb137))
                have n6_ := Aside0.mk ((by rw [hg]; exact Nat.ne_of_lt (blk_lt (g := gb118) (o := .cells #[.int .i64 0, .int .u64 0, .int .i64 0, .int .i64 0, .int .i64 0, .int .i64 0, .int .i64 0] 24 (0, 0)) (by (with_reducible repeat (first | refine blk_drewN ?_ _ | refine blk_drew ?_ | refine blk_alloc ?_ _)); exact BK118.out)) : gb118 ≠ gb137))
                have n7_ := Aside0.mk ((by rw [hg]; exact Nat.ne_of_gt (blk_lt (g := gb118) (o := .cells #[.int .i64 0, .int .u64 0, .int .i64 0, .int .i64 0, .int .i64 0, .int .i64 0, .int .i64 0] 24 (0, 0)) (by (with_reducible repeat (first | refine blk_drewN ?_ _ | refine blk_drew ?_ | refine blk_alloc ?_ _)); exact BK118.out)) : gb137 ≠ gb118))
                clear HO121
                clear BK118
                clear HB
                have HO121 := n0_
                have BK118 := n1_
                have HB := n2_
                have BK137 := n3_
                have GW137 := n4_
                have GE137 := n5_
                have NB118_137 := n6_
                have NB137_118 := n7_
                clear n0_ n1_ n2_ n3_ n4_ n5_ n6_ n7_
                clear hb hbox hg
                refine hK.out _ _ ⟨HS0_, HS1_, HS2_, HS3_, HS4_, HS5_⟩ (fun hHeld => ?_)
                clear hK K
                refine norm_ (a' := ?_) ?_ ?_
                rotate_left
                ·show Act.put _ (some 7) _ = _
                 simp only [Act.put, List.setIfInBounds_toArray, List.set_cons_zero, List.set_cons_succ, i64_w, i32_w]
                 rfl
                exact norm_ (by first | (simp only [putAll, Act.put, List.setIfInBounds_toArray, List.set_cons_zero, List.set_cons_succ]; done) | (simp only [putAll, Act.put, List.setIfInBounds_toArray, List.set_cons_zero, List.set_cons_succ]; rfl)) (hJ3_8_12_16_20_26 (gb137) _ ⟨hHeld, (by (with_reducible repeat (first | apply Kd.R_alloc | apply Kd.R_drewN | apply Kd.R_drew)); exact HO121.out), (by (with_reducible repeat (first | refine blk_drewN ?_ _ | refine blk_drew ?_ | refine blk_alloc ?_ _)); exact BK118.out), (by (with_reducible repeat (first | refine blk_drewN ?_ _ | refine blk_drew ?_ | refine blk_alloc ?_ _)); exact BK137.out), GW137.out, GE137.out, NB118_137.out, NB137_118.out, (by repeat (first | (with_reducible first | exact HB.out | apply below_alloc | apply pw_below_drewN | apply below_drew1 | refine below_set ?_ GE118.out | refine below_set ?_ GE137.out) | exact HB.out))⟩)
             ·skip
              rintro gb137 w62 ⟨hS_, h0_, h1_, h2_, h3_, h4_, h5_, h6_, h7_⟩
              have n0_ : Aside0 (Kd.R Kd.string 9 w62 w.heap.size (fun _ => True) (.slice (some ad122) t119.length co58) t119) := ⟨h0_⟩
              have n1_ : Aside0 (w62.heap[gb118]? = some (.cells #[.int .i64 0, .int .u64 0, .int .i64 0, .int .i64 0, .int .i64 0, .int .i64 0, .int .i64 0] 24 (0, 0))) := ⟨h1_⟩
              have n2_ : Aside0 (w62.heap[gb137]? = some (.cells #[.int .i64 0, .int .u64 0, .int .i64 0, .int .i64 0, .int .i64 0, .int .i64 0, .int .i64 0] 24 (0, 0))) := ⟨h2_⟩
              have n3_ : Aside0 (w.heap.size ≤ gb137) := ⟨h3_⟩
              have n4_ : Aside0 (w.heap.size ≤ gb137) := ⟨h4_⟩
              have n5_ : Aside0 (gb118 ≠ gb137) := ⟨h5_⟩
              have n6_ : Aside0 (gb137 ≠ gb118) := ⟨h6_⟩
              have n7_ : Aside0 (Below w.heap.size w w62) := ⟨h7_⟩
              clear HO121
              clear BK118
              clear HB
              clear h0_ h1_ h2_ h3_ h4_ h5_ h6_ h7_
              have HO121 := n0_
              have BK118 := n1_
              have BK137 := n2_
              have GW137 := n3_
              have GE137 := n4_
              have NB118_137 := n5_
              have NB137_118 := n6_
              have HB := n7_
              clear n0_ n1_ n2_ n3_ n4_ n5_ n6_ n7_
              have hHeld : w62.cell? ad122 = some (.string (rdOf ByteArray.empty t119 0)) ∧ w62.cell? ⟨ad122.block, ad122.off + 2, none⟩ = some (.string (rdOf ByteArray.empty t119 2)) ∧ w62.cell? ⟨ad122.block, ad122.off + 3, none⟩ = some (.string (rdOf ByteArray.empty t119 3)) ∧ w62.cell? ⟨ad122.block, ad122.off + 4, none⟩ = some (.string (rdOf ByteArray.empty t119 4)) ∧ w62.cell? ⟨ad122.block, ad122.off + 5, none⟩ = some (.string (rdOf ByteArray.empty t119 5)) ∧ w62.cell? ⟨ad122.block, ad122.off + 6, none⟩ = some (.string (rdOf ByteArray.empty t119 6)) := hS_
              refine norm_ (a' := ?_) ?_ ?_
              rotate_left
              ·simp only [putAll, Act.put, List.setIfInBounds_toArray, List.set_cons_zero, List.set_cons_succ]
               rfl
              refine one_ (i := 24) (N := some 45) #[true, true, true, true, true, true, true, true, true, true, true, true, true, true, true, true, true, true, true, true, true, true, true, true, true, false, true, false] rfl rfl (one_of HT_.out (by kernel_rfl)) (by decide) (fun K hK => ?_)
              refine goes_ Tryd.func30 (by kernel_rfl) rfl #[.string (rdOf ByteArray.empty t119 6)] (by rfl) rfl rfl (by (try simp only [List.map_toArray, List.map_cons, List.map_nil]); first | done | rfl | (simp only [List.length_drop, List.length_take]; rfl)) ?_
              with_reducible refine (note_number.calls k (rdOf ByteArray.empty t119 6) t136 _ A17.out).mono ?_
              rintro e w' ⟨rfl, ⟨nd, rfl⟩⟩
              refine ⟨_, rfl, ?_⟩
              refine hK.out _ _ ⟨hHeld.1, hHeld.2.1, hHeld.2.2.1, hHeld.2.2.2.1, hHeld.2.2.2.2.1, hHeld.2.2.2.2.2⟩ (fun hHeld => ?_)
              clear hK K
              refine norm_ (a' := ?_) ?_ ?_
              rotate_left
              ·show Act.put _ (some 45) _ = _
               simp only [Act.put, List.setIfInBounds_toArray, List.set_cons_zero, List.set_cons_succ, i64_w, i32_w]
               rfl
              refine pure_ (i := 25) (N := some 46) (v := ?_) (a' := ?_) #[true, true, true, true, true, true, true, true, true, true, true, true, true, true, true, true, true, true, true, true, true, true, true, true, true, true, true, false] rfl rfl (any_of HT_.out (by kernel_rfl)) (fun _ _ _ h => h) (Or.inl ⟨by rfl, ?_⟩) ?_ ?_
              rotate_left
              ·intro w'
               go_simp
               with_reducible rfl
              rotate_left
              ·simp only [Act.put, List.setIfInBounds_toArray, List.set_cons_zero, List.set_cons_succ, i64_w, i32_w]
               rfl
              exact norm_ (by first | (simp only [putAll, Act.put, List.setIfInBounds_toArray, List.set_cons_zero, List.set_cons_succ]; done) | (simp only [putAll, Act.put, List.setIfInBounds_toArray, List.set_cons_zero, List.set_cons_succ]; rfl)) (hJ3_8_12_16_20_24_26 (gb137) _ ⟨hHeld, (by (with_reducible repeat (first | apply Kd.R_alloc | apply Kd.R_drewN | apply Kd.R_drew)); exact HO121.out), (by (with_reducible repeat (first | refine blk_drewN ?_ _ | refine blk_drew ?_ | refine blk_alloc ?_ _)); exact BK118.out), (by (with_reducible repeat (first | refine blk_drewN ?_ _ | refine blk_drew ?_ | refine blk_alloc ?_ _)); exact BK137.out), GW137.out, GE137.out, NB118_137.out, NB137_118.out, (by repeat (first | (with_reducible first | exact HB.out | apply below_alloc | apply pw_below_drewN | apply below_drew1 | refine below_set ?_ GE118.out | refine below_set ?_ GE137.out) | exact HB.out))⟩)
            ·skip
             rintro _ w61 ⟨hS_, h0_, h1_, h2_⟩
             have n0_ : Aside0 (Kd.R Kd.string 9 w61 w.heap.size (fun _ => True) (.slice (some ad122) t119.length co58) t119) := ⟨h0_⟩
             have n1_ : Aside0 (w61.heap[gb118]? = some (.cells #[.int .i64 0, .int .u64 0, .int .i64 0, .int .i64 0, .int .i64 0, .int .i64 0, .int .i64 0] 24 (0, 0))) := ⟨h1_⟩
             have n2_ : Aside0 (Below w.heap.size w w61) := ⟨h2_⟩
             clear HO121
             clear BK118
             clear HB
             clear h0_ h1_ h2_
             have HO121 := n0_
             have BK118 := n1_
             have HB := n2_
             clear n0_ n1_ n2_
             have hHeld : w61.cell? ad122 = some (.string (rdOf ByteArray.empty t119 0)) ∧ w61.cell? ⟨ad122.block, ad122.off + 2, none⟩ = some (.string (rdOf ByteArray.empty t119 2)) ∧ w61.cell? ⟨ad122.block, ad122.off + 3, none⟩ = some (.string (rdOf ByteArray.empty t119 3)) ∧ w61.cell? ⟨ad122.block, ad122.off + 4, none⟩ = some (.string (rdOf ByteArray.empty t119 4)) ∧ w61.cell? ⟨ad122.block, ad122.off + 5, none⟩ = some (.string (rdOf ByteArray.empty t119 5)) ∧ w61.cell? ⟨ad122.block, ad122.off + 6, none⟩ = some (.string (rdOf ByteArray.empty t119 6)) := hS_
             refine norm_ (a' := ?_) ?_ ?_
             rotate_left
             ·simp only [putAll, Act.put, List.setIfInBounds_toArray, List.set_cons_zero, List.set_cons_succ]
              rfl
             refine one_ (i := 26) (N := some 7) #[true, true, true, true, true, true, true, true, true, true, true, true, true, true, true, true, true, true, true, true, true, true, true, true, true, true, true, false] rfl rfl (one_of HT_.out (by kernel_rfl)) (by decide) (fun K hK => ?_)
             refine box_step ?hg (N := 7) ?hd (cs := #[.int .i64 0, .int .u64 0, .int .i64 0, .int .i64 0, .int .i64 0, .int .i64 0, .int .i64 0]) (t := 24) ?hr ?_; (case hd => rfl); (case hg => rfl); (case hr => first | (go_simp; done) | (go_simp; rfl))
             intro gb137 hg w62 hbox hb
             have HS0_ := (hb.cell (World.block_lt_of_cell? _ _ (hHeld.1))).trans (hHeld.1)
             have HS1_ := (hb.cell (World.block_lt_of_cell? _ _ (hHeld.2.1))).trans (hHeld.2.1)
             have HS2_ := (hb.cell (World.block_lt_of_cell? _ _ (hHeld.2.2.1))).trans (hHeld.2.2.1)
             have HS3_ := (hb.cell (World.block_lt_of_cell? _ _ (hHeld.2.2.2.1))).trans (hHeld.2.2.2.1)
             have HS4_ := (hb.cell (World.block_lt_of_cell? _ _ (hHeld.2.2.2.2.1))).trans (hHeld.2.2.2.2.1)
             have HS5_ := (hb.cell (World.block_lt_of_cell? _ _ (hHeld.2.2.2.2.2))).trans (hHeld.2.2.2.2.2)
             have n0_ := Aside0.mk (Kd.R_below (by (with_reducible repeat (first | apply Kd.R_alloc | apply Kd.R_drewN | apply Kd.R_drew)); exact HO121.out) hb)
             have n1_ := Aside0.mk (blk_below (g := gb118) (o := .cells #[.int .i64 0, .int .u64 0, .int .i64 0, .int .i64 0, .int .i64 0, .int .i64 0, .int .i64 0] 24 (0, 0)) (by (with_reducible repeat (first | refine blk_drewN ?_ _ | refine blk_drew ?_ | refine blk_alloc ?_ _)); exact BK118.out) hb)
             have n2_ := Aside0.mk (below_step (by repeat (first | (with_reducible first | exact HB.out | apply below_alloc | apply pw_below_drewN | apply below_drew1 | refine below_set ?_ GE118.out) | exact HB.out)) hb)
             have n3_ := Aside0.mk (hbox)
             have n4_ := Aside0.mk ((by rw [hg]; exact (below_size (by repeat (first | (with_reducible first | exact HB.out | apply below_alloc | apply pw_below_drewN | apply below_drew1 | refine below_set ?_ GE118.out) | exact HB.out))) : w.heap.size ≤ gb137))
             have n5_ := Aside0.mk ((by rw [hg]; exact (below_size (by repeat (first | (with_reducible first | exact HB.out | apply below_alloc | apply pw_below_drewN | apply below_drew1 | refine below_set ?_ GE118.out) | exact HB.out))) : w.heap.size ≤ gb137))
             have n6_ := Aside0.mk ((by rw [hg]; exact Nat.ne_of_lt (blk_lt (g := gb118) (o := .cells #[.int .i64 0, .int .u64 0, .int .i64 0, .int .i64 0, .int .i64 0, .int .i64 0, .int .i64 0] 24 (0, 0)) (by (with_reducible repeat (first | refine blk_drewN ?_ _ | refine blk_drew ?_ | refine blk_alloc ?_ _)); exact BK118.out)) : gb118 ≠ gb137))
             have n7_ := Aside0.mk ((by rw [hg]; exact Nat.ne_of_gt (blk_lt (g := gb118) (o := .cells #[.int .i64 0, .int .u64 0, .int .i64 0, .int .i64 0, .int .i64 0, .int .i64 0, .int .i64 0] 24 (0, 0)) (by (with_reducible repeat (first | refine blk_drewN ?_ _ | refine blk_drew ?_ | refine blk_alloc ?_ _)); exact BK118.out)) : gb137 ≠ gb118))
             clear HO121
             clear BK118
             clear HB
             have HO121 := n0_
             have BK118 := n1_
             have HB := n2_
             have BK137 := n3_
             have GW137 := n4_
             have GE137 := n5_
             have NB118_137 := n6_
             have NB137_118 := n7_
             clear n0_ n1_ n2_ n3_ n4_ n5_ n6_ n7_
             clear hb hbox hg
             refine hK.out _ _ ⟨HS0_, HS1_, HS2_, HS3_, HS4_, HS5_⟩ (fun hHeld => ?_)
             clear hK K
             refine norm_ (a' := ?_) ?_ ?_
             rotate_left
             ·show Act.put _ (some 7) _ = _
              simp only [Act.put, List.setIfInBounds_toArray, List.set_cons_zero, List.set_cons_succ, i64_w, i32_w]
              rfl
             exact norm_ (by first | (simp only [putAll, Act.put, List.setIfInBounds_toArray, List.set_cons_zero, List.set_cons_succ]; done) | (simp only [putAll, Act.put, List.setIfInBounds_toArray, List.set_cons_zero, List.set_cons_succ]; rfl)) (hJ3_8_12_16_20_24_26 (gb137) _ ⟨hHeld, (by (with_reducible repeat (first | apply Kd.R_alloc | apply Kd.R_drewN | apply Kd.R_drew)); exact HO121.out), (by (with_reducible repeat (first | refine blk_drewN ?_ _ | refine blk_drew ?_ | refine blk_alloc ?_ _)); exact BK118.out), (by (with_reducible repeat (first | refine blk_drewN ?_ _ | refine blk_drew ?_ | refine blk_alloc ?_ _)); exact BK137.out), GW137.out, GE137.out, NB118_137.out, NB137_118.out, (by repeat (first | (with_reducible first | exact HB.out | apply below_alloc | apply pw_below_drewN | apply below_drew1 | refine below_set ?_ GE118.out | refine below_set ?_ GE137.out) | exact HB.out))⟩)
           rintro gb137 w62 ⟨hS_, h0_, h1_, h2_, h3_, h4_, h5_, h6_, h7_⟩
           have n0_ : Aside0 (Kd.R Kd.string 9 w62 w.heap.size (fun _ => True) (.slice (some ad122) t119.length co58) t119) := ⟨h0_⟩
           have n1_ : Aside0 (w62.heap[gb118]? = some (.cells #[.int .i64 0, .int .u64 0, .int .i64 0, .int .i64 0, .int .i64 0, .int .i64 0, .int .i64 0] 24 (0, 0))) := ⟨h1_⟩
           have n2_ : Aside0 (w62.heap[gb137]? = some (.cells #[.int .i64 0, .int .u64 0, .int .i64 0, .int .i64 0, .int .i64 0, .int .i64 0, .int .i64 0] 24 (0, 0))) := ⟨h2_⟩
           have n3_ : Aside0 (w.heap.size ≤ gb137) := ⟨h3_⟩
           have n4_ : Aside0 (w.heap.size ≤ gb137) := ⟨h4_⟩
           have n5_ : Aside0 (gb118 ≠ gb137) := ⟨h5_⟩
           have n6_ : Aside0 (gb137 ≠ gb118) := ⟨h6_⟩
           have n7_ : Aside0 (Below w.heap.size w w62) := ⟨h7_⟩
           clear HO121
           clear BK118
           clear HB
           clear h0_ h1_ h2_ h3_ h4_ h5_ h6_ h7_
           have HO121 := n0_
           have BK118 := n1_
           have BK137 := n2_
           have GW137 := n3_
           have GE137 := n4_
           have NB118_137 := n5_
           have NB137_118 := n6_
           have HB := n7_
           clear n0_ n1_ n2_ n3_ n4_ n5_ n6_ n7_
           have hHeld : w62.cell? ad122 = some (.string (rdOf ByteArray.empty t119 0)) ∧ w62.cell? ⟨ad122.block, ad122.off + 2, none⟩ = some (.string (rdOf ByteArray.empty t119 2)) ∧ w62.cell? ⟨ad122.block, ad122.off + 3, none⟩ = some (.string (rdOf ByteArray.empty t119 3)) ∧ w62.cell? ⟨ad122.block, ad122.off + 4, none⟩ = some (.string (rdOf ByteArray.empty t119 4)) ∧ w62.cell? ⟨ad122.block, ad122.off + 5, none⟩ = some (.string (rdOf ByteArray.empty t119 5)) ∧ w62.cell? ⟨ad122.block, ad122.off + 6, none⟩ = some (.string (rdOf ByteArray.empty t119 6)) := hS_
           refine norm_ (a' := ?_) ?_ ?_
           rotate_left
           ·simp only [putAll, Act.put, List.setIfInBounds_toArray, List.set_cons_zero, List.set_cons_succ]
            rfl
           refine one_ (i := 27) (N := none) #[true, true, true, true, true, true, true, true, true, true, true, true, true, true, true, true, true, true, true, true, true, true, true, true, true, true, true, true] rfl rfl (one_of HT_.out (by kernel_rfl)) (by decide) (fun K hK => ?_)
           have hs63 : w62.cell? ⟨gb137, 0, none⟩ = some (.int .i64 0) := (blk_cell BK137.out 0).trans rfl
           have hfs63 := blk_frozen BK137.out 0
           have hns63_0 := NB118_137.out
           have hms63_0 := NB137_118.out
           have hs64 : w62.cell? ⟨gb137, 1, none⟩ = some (.int .u64 0) := (blk_cell BK137.out 1).trans rfl
           have hfs64 := blk_frozen BK137.out 1
           have hns64_0 := NB118_137.out
           have hms64_0 := NB137_118.out
           have hs65 : w62.cell? ⟨gb137, 2, none⟩ = some (.int .i64 0) := (blk_cell BK137.out 2).trans rfl
           have hfs65 := blk_frozen BK137.out 2
           have hns65_0 := NB118_137.out
           have hms65_0 := NB137_118.out
           have hs66 : w62.cell? ⟨gb137, 3, none⟩ = some (.int .i64 0) := (blk_cell BK137.out 3).trans rfl
           have hfs66 := blk_frozen BK137.out 3
           have hns66_0 := NB118_137.out
           have hms66_0 := NB137_118.out
           have hs67 : w62.cell? ⟨gb137, 4, none⟩ = some (.int .i64 0) := (blk_cell BK137.out 4).trans rfl
           have hfs67 := blk_frozen BK137.out 4
           have hns67_0 := NB118_137.out
           have hms67_0 := NB137_118.out
           have hs68 : w62.cell? ⟨gb137, 5, none⟩ = some (.int .i64 0) := (blk_cell BK137.out 5).trans rfl
           have hfs68 := blk_frozen BK137.out 5
           have hns68_0 := NB118_137.out
           have hms68_0 := NB137_118.out
           have hs69 : w62.cell? ⟨gb137, 6, none⟩ = some (.int .i64 0) := (blk_cell BK137.out 6).trans rfl
           have hfs69 := blk_frozen BK137.out 6
           have hns69_0 := NB118_137.out
           have hms69_0 := NB137_118.out
           refine skip_ (w1 := ?_) (by rfl) rfl ?_ ?_
           rotate_left
           ·go_simp
            rfl
           have hne7_ := Kd.own_blk (Kd.R_ne HO121.out BK137.out (by decide))
           refine hK.out _ _ ⟨(cell_store7 (a := ad122) (g := gb137) hne7_ _ _ _ _ _ _ _).trans hHeld.1, (cell_store7 (a := ⟨ad122.block, ad122.off + 2, none⟩) (g := gb137) hne7_ _ _ _ _ _ _ _).trans hHeld.2.1, (cell_store7 (a := ⟨ad122.block, ad122.off + 3, none⟩) (g := gb137) hne7_ _ _ _ _ _ _ _).trans hHeld.2.2.1, (cell_store7 (a := ⟨ad122.block, ad122.off + 4, none⟩) (g := gb137) hne7_ _ _ _ _ _ _ _).trans hHeld.2.2.2.1, (cell_store7 (a := ⟨ad122.block, ad122.off + 5, none⟩) (g := gb137) hne7_ _ _ _ _ _ _ _).trans hHeld.2.2.2.2.1, (cell_store7 (a := ⟨ad122.block, ad122.off + 6, none⟩) (g := gb137) hne7_ _ _ _ _ _ _ _).trans hHeld.2.2.2.2.2⟩ (fun hHeld => ?_)
           clear hne7_
           clear hK K
           refine done_ (done_of HT_.out (by kernel_rfl)) ?_
           have hnb70 := NB137_118.out
           have hnc70 := NB118_137.out
           have hcz71_0 : w62.cell? ⟨gb137, 0, none⟩ = some (.int .i64 0) := (blk_cell BK137.out 0).trans rfl
           have hcz71_1 : w62.cell? ⟨gb137, 1, none⟩ = some (.int .u64 0) := (blk_cell BK137.out 1).trans rfl
           have hcz71_2 : w62.cell? ⟨gb137, 2, none⟩ = some (.int .i64 0) := (blk_cell BK137.out 2).trans rfl
           have hcz71_3 : w62.cell? ⟨gb137, 3, none⟩ = some (.int .i64 0) := (blk_cell BK137.out 3).trans rfl
           have hcz71_4 : w62.cell? ⟨gb137, 4, none⟩ = some (.int .i64 0) := (blk_cell BK137.out 4).trans rfl
           have hcz71_5 : w62.cell? ⟨gb137, 5, none⟩ = some (.int .i64 0) := (blk_cell BK137.out 5).trans rfl
           have hcz71_6 : w62.cell? ⟨gb137, 6, none⟩ = some (.int .i64 0) := (blk_cell BK137.out 6).trans rfl
           have hfz71_0 := blk_frozen BK137.out 0
           have hfz71_1 := blk_frozen BK137.out 1
           have hfz71_2 := blk_frozen BK137.out 2
           have hfz71_3 := blk_frozen BK137.out 3
           have hfz71_4 := blk_frozen BK137.out 4
           have hfz71_5 := blk_frozen BK137.out 5
           have hfz71_6 := blk_frozen BK137.out 6
           have zo_ : Aside0 ((((((((w62.setCell ⟨gb137, 0, none⟩ (.int .i64 t126)).setCell ⟨gb137, 1, none⟩ (.int .u64 t123)).setCell ⟨gb137, 2, none⟩ (.int .i64 t128)).setCell ⟨gb137, 3, none⟩ (.int .i64 t130)).setCell ⟨gb137, 4, none⟩ (.int .i64 t132)).setCell ⟨gb137, 5, none⟩ (.int .i64 t134)).setCell ⟨gb137, 6, none⟩ (.int .i64 t136)).heap[gb118]? = some (.cells #[.int .i64 0, .int .u64 0, .int .i64 0, .int .i64 0, .int .i64 0, .int .i64 0, .int .i64 0] 24 (0, 0))) := ⟨by refine blk_far ?_ NB118_137.out _; refine blk_far ?_ NB118_137.out _; refine blk_far ?_ NB118_137.out _; refine blk_far ?_ NB118_137.out _; refine blk_far ?_ NB118_137.out _; refine blk_far ?_ NB118_137.out _; refine blk_far ?_ NB118_137.out _; exact BK118.out⟩
           have zg_ : Aside0 ((((((((w62.setCell ⟨gb137, 0, none⟩ (.int .i64 t126)).setCell ⟨gb137, 1, none⟩ (.int .u64 t123)).setCell ⟨gb137, 2, none⟩ (.int .i64 t128)).setCell ⟨gb137, 3, none⟩ (.int .i64 t130)).setCell ⟨gb137, 4, none⟩ (.int .i64 t132)).setCell ⟨gb137, 5, none⟩ (.int .i64 t134)).setCell ⟨gb137, 6, none⟩ (.int .i64 t136)).heap[gb137]? = some (.cells #[.int .i64 t126, .int .u64 t123, .int .i64 t128, .int .i64 t130, .int .i64 t132, .int .i64 t134, .int .i64 t136] 24 (0, 0))) := ⟨by refine blk_put (cs := #[.int .i64 t126, .int .u64 t123, .int .i64 t128, .int .i64 t130, .int .i64 t132, .int .i64 t134, .int .i64 0]) ?_ 6 _ rfl; refine blk_put (cs := #[.int .i64 t126, .int .u64 t123, .int .i64 t128, .int .i64 t130, .int .i64 t132, .int .i64 0, .int .i64 0]) ?_ 5 _ rfl; refine blk_put (cs := #[.int .i64 t126, .int .u64 t123, .int .i64 t128, .int .i64 t130, .int .i64 0, .int .i64 0, .int .i64 0]) ?_ 4 _ rfl; refine blk_put (cs := #[.int .i64 t126, .int .u64 t123, .int .i64 t128, .int .i64 0, .int .i64 0, .int .i64 0, .int .i64 0]) ?_ 3 _ rfl; refine blk_put (cs := #[.int .i64 t126, .int .u64 t123, .int .i64 0, .int .i64 0, .int .i64 0, .int .i64 0, .int .i64 0]) ?_ 2 _ rfl; refine blk_put (cs := #[.int .i64 t126, .int .u64 0, .int .i64 0, .int .i64 0, .int .i64 0, .int .i64 0, .int .i64 0]) ?_ 1 _ rfl; refine blk_put (cs := #[.int .i64 0, .int .u64 0, .int .i64 0, .int .i64 0, .int .i64 0, .int .i64 0, .int .i64 0]) ?_ 0 _ rfl; exact BK137.out⟩
           have zB_ : Aside0 (Below w.heap.size w (((((((w62.setCell ⟨gb137, 0, none⟩ (.int .i64 t126)).setCell ⟨gb137, 1, none⟩ (.int .u64 t123)).setCell ⟨gb137, 2, none⟩ (.int .i64 t128)).setCell ⟨gb137, 3, none⟩ (.int .i64 t130)).setCell ⟨gb137, 4, none⟩ (.int .i64 t132)).setCell ⟨gb137, 5, none⟩ (.int .i64 t134)).setCell ⟨gb137, 6, none⟩ (.int .i64 t136))) := ⟨by refine below_set ?_ GE137.out; refine below_set ?_ GE137.out; refine below_set ?_ GE137.out; refine below_set ?_ GE137.out; refine below_set ?_ GE137.out; refine below_set ?_ GE137.out; refine below_set ?_ GE137.out; exact HB.out⟩
           have zh_ := Aside0.mk (Kd.R_mono (Kd.R_far (p := ⟨gb137, 6, none⟩) (Kd.R_far (p := ⟨gb137, 5, none⟩) (Kd.R_far (p := ⟨gb137, 4, none⟩) (Kd.R_far (p := ⟨gb137, 3, none⟩) (Kd.R_far (p := ⟨gb137, 2, none⟩) (Kd.R_far (p := ⟨gb137, 1, none⟩) (Kd.R_far (p := ⟨gb137, 0, none⟩) (Kd.R_types HO121.out BK137.out (by decide)) (fun _ hk => hk.2) (.int .i64 t126)) (fun _ hk => hk.2) (.int .u64 t123)) (fun _ hk => hk.2) (.int .i64 t128)) (fun _ hk => hk.2) (.int .i64 t130)) (fun _ hk => hk.2) (.int .i64 t132)) (fun _ hk => hk.2) (.int .i64 t134)) (fun _ hk => hk.2) (.int .i64 t136)) (fun _ h_ => h_.1))
           clear HO121 BK118 BK137 HB
           try clear hHeld
           try clear hfz71_6
           try clear hfz71_5
           try clear hfz71_4
           try clear hfz71_3
           try clear hfz71_2
           try clear hfz71_1
           try clear hfz71_0
           try clear hcz71_6
           try clear hcz71_5
           try clear hcz71_4
           try clear hcz71_3
           try clear hcz71_2
           try clear hcz71_1
           try clear hcz71_0
           try clear hnc70
           try clear hnb70
           try clear hms69_0
           try clear hns69_0
           try clear hfs69
           try clear hs69
           try clear hms68_0
           try clear hns68_0
           try clear hfs68
           try clear hs68
           try clear hms67_0
           try clear hns67_0
           try clear hfs67
           try clear hs67
           try clear hms66_0
           try clear hns66_0
           try clear hfs66
           try clear hs66
           try clear hms65_0
           try clear hns65_0
           try clear hfs65
           try clear hs65
           try clear hms64_0
           try clear hns64_0
           try clear hfs64
           try clear hs64
           try clear hms63_0
           try clear hns63_0
           try clear hfs63
           try clear hs63
           have BK118 := zo_
           have BK137 := zg_
           have HB := zB_
           have HO121 := zh_
           clear zo_ zg_ zB_ zh_
           generalize (((((((w62.setCell ⟨gb137, 0, none⟩ (.int .i64 t126)).setCell ⟨gb137, 1, none⟩ (.int .u64 t123)).setCell ⟨gb137, 2, none⟩ (.int .i64 t128)).setCell ⟨gb137, 3, none⟩ (.int .i64 t130)).setCell ⟨gb137, 4, none⟩ (.int .i64 t132)).setCell ⟨gb137, 5, none⟩ (.int .i64 t134)).setCell ⟨gb137, 6, none⟩ (.int .i64 t136)) = wz2 at BK118 BK137 HB HO121 ⊢
           have hzz118_0 : wz2.cell? ⟨gb118, 0, none⟩ = some (.int .i64 0) := (blk_cell BK118.out 0).trans rfl
           have hzz118_1 : wz2.cell? ⟨gb118, 1, none⟩ = some (.int .u64 0) := (blk_cell BK118.out 1).trans rfl
           have hzz118_2 : wz2.cell? ⟨gb118, 2, none⟩ = some (.int .i64 0) := (blk_cell BK118.out 2).trans rfl
           have hzz118_3 : wz2.cell? ⟨gb118, 3, none⟩ = some (.int .i64 0) := (blk_cell BK118.out 3).trans rfl
           have hzz118_4 : wz2.cell? ⟨gb118, 4, none⟩ = some (.int .i64 0) := (blk_cell BK118.out 4).trans rfl
           have hzz118_5 : wz2.cell? ⟨gb118, 5, none⟩ = some (.int .i64 0) := (blk_cell BK118.out 5).trans rfl
           have hzz118_6 : wz2.cell? ⟨gb118, 6, none⟩ = some (.int .i64 0) := (blk_cell BK118.out 6).trans rfl
           have hzf118_0 := blk_frozen BK118.out 0
           have hzf118_1 := blk_frozen BK118.out 1
           have hzf118_2 := blk_frozen BK118.out 2
           have hzf118_3 := blk_frozen BK118.out 3
           have hzf118_4 := blk_frozen BK118.out 4
           have hzf118_5 := blk_frozen BK118.out 5
           have hzf118_6 := blk_frozen BK118.out 6
           have hzz137_0 : wz2.cell? ⟨gb137, 0, none⟩ = some (.int .i64 t126) := (blk_cell BK137.out 0).trans rfl
           have hzz137_1 : wz2.cell? ⟨gb137, 1, none⟩ = some (.int .u64 t123) := (blk_cell BK137.out 1).trans rfl
           have hzz137_2 : wz2.cell? ⟨gb137, 2, none⟩ = some (.int .i64 t128) := (blk_cell BK137.out 2).trans rfl
           have hzz137_3 : wz2.cell? ⟨gb137, 3, none⟩ = some (.int .i64 t130) := (blk_cell BK137.out 3).trans rfl
           have hzz137_4 : wz2.cell? ⟨gb137, 4, none⟩ = some (.int .i64 t132) := (blk_cell BK137.out 4).trans rfl
           have hzz137_5 : wz2.cell? ⟨gb137, 5, none⟩ = some (.int .i64 t134) := (blk_cell BK137.out 5).trans rfl
           have hzz137_6 : wz2.cell? ⟨gb137, 6, none⟩ = some (.int .i64 t136) := (blk_cell BK137.out 6).trans rfl
           have hzf137_0 := blk_frozen BK137.out 0
           have hzf137_1 := blk_frozen BK137.out 1
           have hzf137_2 := blk_frozen BK137.out 2
           have hzf137_3 := blk_frozen BK137.out 3
           have hzf137_4 := blk_frozen BK137.out 4
           have hzf137_5 := blk_frozen BK137.out 5
           have hzf137_6 := blk_frozen BK137.out 6
           have hzn118 := NB118_137.out
           have hzm118 := NB137_118.out
           try go_wp2_with (first | (go_at_call 8; (with_reducible refine (note_Show.calls k t126 t123 t128 t130 t132 t134 t136 t138 _ ?side1 A35.out).mono ?_); (case side1 => exact ⟨by repeat (first | (with_reducible exact hM_.out) | (with_reducible exact LaidW.below hM_.out HB.out) | (with_reducible refine LaidW.alloc ?_ _) | (with_reducible refine LaidW.drewN ?_ _) | (with_reducible refine LaidW.drew ?_) | exact LaidW.below hM_.out (by repeat (first | (with_reducible first | exact HB.out | apply below_alloc | apply pw_below_drewN | apply below_drew1 | refine below_set ?_ GE118.out | refine below_set ?_ GE137.out) | exact HB.out)))⟩); rintro e w72 ⟨rfl, hb⟩; have n0_ := Aside0.mk (Kd.R_below HO121.out hb); have n1_ := Aside0.mk (blk_below (g := gb118) (o := .cells #[.int .i64 0, .int .u64 0, .int .i64 0, .int .i64 0, .int .i64 0, .int .i64 0, .int .i64 0] 24 (0, 0)) (by exact BK118.out) hb); have n2_ := Aside0.mk (blk_below (g := gb137) (o := .cells #[.int .i64 t126, .int .u64 t123, .int .i64 t128, .int .i64 t130, .int .i64 t132, .int .i64 t134, .int .i64 t136] 24 (0, 0)) (by exact BK137.out) hb); have n3_ := Aside0.mk (below_step (by repeat (first | (with_reducible first | exact HB.out | apply below_alloc | apply pw_below_drewN | apply below_drew1 | refine below_set ?_ GE118.out | refine below_set ?_ GE137.out) | exact HB.out)) hb); clear HO121; clear BK118; clear BK137; clear HB; have HO121 := n0_; have BK118 := n1_; have BK137 := n2_; have HB := n3_; clear n0_ n1_ n2_ n3_; (try clear hb); (try clear hb2); (try clear hk); (try clear hi); have hcz73_0 : w72.cell? ⟨gb118, 0, none⟩ = some (.int .i64 0) := (blk_cell BK118.out 0).trans rfl; have hcz73_1 : w72.cell? ⟨gb118, 1, none⟩ = some (.int .u64 0) := (blk_cell BK118.out 1).trans rfl; have hcz73_2 : w72.cell? ⟨gb118, 2, none⟩ = some (.int .i64 0) := (blk_cell BK118.out 2).trans rfl; have hcz73_3 : w72.cell? ⟨gb118, 3, none⟩ = some (.int .i64 0) := (blk_cell BK118.out 3).trans rfl; have hcz73_4 : w72.cell? ⟨gb118, 4, none⟩ = some (.int .i64 0) := (blk_cell BK118.out 4).trans rfl; have hcz73_5 : w72.cell? ⟨gb118, 5, none⟩ = some (.int .i64 0) := (blk_cell BK118.out 5).trans rfl; have hcz73_6 : w72.cell? ⟨gb118, 6, none⟩ = some (.int .i64 0) := (blk_cell BK118.out 6).trans rfl; have hfz73_0 := blk_frozen BK118.out 0; have hfz73_1 := blk_frozen BK118.out 1; have hfz73_2 := blk_frozen BK118.out 2; have hfz73_3 := blk_frozen BK118.out 3; have hfz73_4 := blk_frozen BK118.out 4; have hfz73_5 := blk_frozen BK118.out 5; have hfz73_6 := blk_frozen BK118.out 6))
           refine bodyPost_ret (results_ct rfl _ _ gb118 24 #[.int .i64 0, .int .u64 0, .int .i64 0, .int .i64 0, .int .i64 0, .int .i64 0, .int .i64 0] (0, 0) _ rfl (by (with_reducible repeat (first | refine blk_drewN ?_ _ | refine blk_drew ?_ | refine blk_alloc ?_ _)); refine blk_put (cs := #[.int .i64 0, .int .u64 0, .int .i64 0, .int .i64 0, .int .i64 0, .int .i64 0, .int .i64 0]) ?_ 6 _ rfl; (with_reducible repeat (first | refine blk_drewN ?_ _ | refine blk_drew ?_ | refine blk_alloc ?_ _)); refine blk_put (cs := #[.int .i64 0, .int .u64 0, .int .i64 0, .int .i64 0, .int .i64 0, .int .i64 0, .int .i64 0]) ?_ 5 _ rfl; (with_reducible repeat (first | refine blk_drewN ?_ _ | refine blk_drew ?_ | refine blk_alloc ?_ _)); refine blk_put (cs := #[.int .i64 0, .int .u64 0, .int .i64 0, .int .i64 0, .int .i64 0, .int .i64 0, .int .i64 0]) ?_ 4 _ rfl; (with_reducible repeat (first | refine blk_drewN ?_ _ | refine blk_drew ?_ | refine blk_alloc ?_ _)); refine blk_put (cs := #[.int .i64 0, .int .u64 0, .int .i64 0, .int .i64 0, .int .i64 0, .int .i64 0, .int .i64 0]) ?_ 3 _ rfl; (with_reducible repeat (first | refine blk_drewN ?_ _ | refine blk_drew ?_ | refine blk_alloc ?_ _)); refine blk_put (cs := #[.int .i64 0, .int .u64 0, .int .i64 0, .int .i64 0, .int .i64 0, .int .i64 0, .int .i64 0]) ?_ 2 _ rfl; (with_reducible repeat (first | refine blk_drewN ?_ _ | refine blk_drew ?_ | refine blk_alloc ?_ _)); refine blk_put (cs := #[.int .i64 0, .int .u64 0, .int .i64 0, .int .i64 0, .int .i64 0, .int .i64 0, .int .i64 0]) ?_ 1 _ rfl; (with_reducible repeat (first | refine blk_drewN ?_ _ | refine blk_drew ?_ | refine blk_alloc ?_ _)); refine blk_put (cs := #[.int .i64 0, .int .u64 0, .int .i64 0, .int .i64 0, .int .i64 0, .int .i64 0, .int .i64 0]) ?_ 0 _ rfl; (with_reducible repeat (first | refine blk_drewN ?_ _ | refine blk_drew ?_ | refine blk_alloc ?_ _)); exact BK118.out) Tryd.underlying24 rfl (by kernel_rfl)) rfl ?_
           exact ⟨by first | rfl | (simp [errW_none, errW_some] <;> rfl) | (simp [*, errW_none, errW_some] <;> rfl), by repeat (first | (with_reducible first | exact HB.out | apply below_alloc | apply pw_below_drewN | apply below_drew1 | refine below_set ?_ GE118.out | refine below_set ?_ GE137.out) | exact HB.out)⟩
        ·rw [if_neg c16] at H
         exact absurd H (by simp)
       ·rw [if_neg c14] at H
        exact absurd H (by simp)
      ·rw [if_neg c12] at H
       exact absurd H (by simp)
     ·rw [if_neg c10] at H
      exact absurd H (by simp)
    ·rw [if_neg c8] at H
     exact absurd H (by simp)
   ·rw [if_neg c6] at H
    exact absurd H (by simp)
  ·rw [if_neg c4] at H
   exact absurd H (by simp)
 ·rw [if_neg c3] at H
  have c3b0 : ((t119.length : Int) == 7) = false := beq_eq_false_iff_ne.mpr c3
  have c3b1 : ((t119.length : Int) != 7) = true := bne_iff_ne.mpr c3
  simp only [Option.some.injEq, Prod.mk.injEq] at H
  obtain ⟨rfl, rfl, rfl, rfl, rfl, rfl, rfl, rfl⟩ := H
  go_enter Tryd.func11, Tryd.ntmps11
  go_wp2_with (first | ((with_reducible refine gate_dst (N := 2) rfl ?_); refine box_event ?hg (N := 2) ?hd (cs := #[.int .i64 0, .int .u64 0, .int .i64 0, .int .i64 0, .int .i64 0, .int .i64 0, .int .i64 0]) (t := 24) ?hr ?_; (case hd => rfl); (case hg => rfl); (case hr => first | (go_simp; done) | (go_simp; rfl)); intro gb118 hg w74 hbox hb; have n0_ := Aside0.mk (below_step (by repeat (first | exact HB.out | apply below_alloc | apply pw_below_drewN | apply below_drew1)) hb); have n1_ := Aside0.mk (hbox); have n2_ := Aside0.mk ((by rw [hg]; exact (below_size (by repeat (first | exact HB.out | apply below_alloc | apply pw_below_drewN | apply below_drew1))) : w.heap.size ≤ gb118)); have n3_ := n2_; clear HB; have HB := n0_; have BK118 := n1_; have GW118 := n2_; have GE118 := n3_; clear n0_ n1_ n2_ n3_; clear hb hbox hg) | ((with_reducible refine gate_callee (f := 28) rfl ?_); refine goesL_ (some 9) rfl rfl Tryd.func28 (by kernel_rfl) rfl #[.string a0, .string (⟨#[32]⟩ : ByteArray)] rfl (by (try simp only [List.map_toArray, List.map_cons, List.map_nil]); first | done | rfl | (simp only [List.length_drop, List.length_take]; rfl)) ?_; (with_reducible refine (strings_Split.calls a0 (⟨#[32]⟩ : ByteArray) t119 _ A2.out).mono ?_); rintro e w75 ⟨v120, rfl, ho0, hb⟩; refine ⟨_, rfl, ?_⟩; have n0_ := Aside0.mk (Kd.R_lower ho0 (below_size (by repeat (first | (with_reducible first | exact HB.out | apply below_alloc | apply pw_below_drewN | apply below_drew1 | refine below_set ?_ GE118.out) | exact HB.out)))); have n1_ := Aside0.mk (blk_below (g := gb118) (o := .cells #[.int .i64 0, .int .u64 0, .int .i64 0, .int .i64 0, .int .i64 0, .int .i64 0, .int .i64 0] 24 (0, 0)) (by (with_reducible repeat (first | refine blk_drewN ?_ _ | refine blk_drew ?_ | refine blk_alloc ?_ _)); exact BK118.out) hb); have n2_ := Aside0.mk (below_step (by repeat (first | (with_reducible first | exact HB.out | apply below_alloc | apply pw_below_drewN | apply below_drew1 | refine below_set ?_ GE118.out) | exact HB.out)) hb); clear BK118; clear HB; have HO121 := n0_; have BK118 := n1_; have HB := n2_; clear n0_ n1_ n2_; (try clear hb); (try clear hb2); (try clear hk); (try clear hi); (try clear ho0); obtain ⟨Ao76, co76, eo76⟩ := Kd.R_slice HO121.out; subst eo76; have hcz77_0 : w75.cell? ⟨gb118, 0, none⟩ = some (.int .i64 0) := (blk_cell BK118.out 0).trans rfl; have hcz77_1 : w75.cell? ⟨gb118, 1, none⟩ = some (.int .u64 0) := (blk_cell BK118.out 1).trans rfl; have hcz77_2 : w75.cell? ⟨gb118, 2, none⟩ = some (.int .i64 0) := (blk_cell BK118.out 2).trans rfl; have hcz77_3 : w75.cell? ⟨gb118, 3, none⟩ = some (.int .i64 0) := (blk_cell BK118.out 3).trans rfl; have hcz77_4 : w75.cell? ⟨gb118, 4, none⟩ = some (.int .i64 0) := (blk_cell BK118.out 4).trans rfl; have hcz77_5 : w75.cell? ⟨gb118, 5, none⟩ = some (.int .i64 0) := (blk_cell BK118.out 5).trans rfl; have hcz77_6 : w75.cell? ⟨gb118, 6, none⟩ = some (.int .i64 0) := (blk_cell BK118.out 6).trans rfl; have hfz77_0 := blk_frozen BK118.out 0; have hfz77_1 := blk_frozen BK118.out 1; have hfz77_2 := blk_frozen BK118.out 2; have hfz77_3 := blk_frozen BK118.out 3; have hfz77_4 := blk_frozen BK118.out 4; have hfz77_5 := blk_frozen BK118.out 5; have hfz77_6 := blk_frozen BK118.out 6))
  refine bodyPost_ret (results_ct rfl _ _ gb118 24 #[.int .i64 0, .int .u64 0, .int .i64 0, .int .i64 0, .int .i64 0, .int .i64 0, .int .i64 0] (0, 0) _ rfl (by (with_reducible repeat (first | refine blk_drewN ?_ _ | refine blk_drew ?_ | refine blk_alloc ?_ _)); refine blk_put (cs := #[.int .i64 0, .int .u64 0, .int .i64 0, .int .i64 0, .int .i64 0, .int .i64 0, .int .i64 0]) ?_ 6 _ rfl; (with_reducible repeat (first | refine blk_drewN ?_ _ | refine blk_drew ?_ | refine blk_alloc ?_ _)); refine blk_put (cs := #[.int .i64 0, .int .u64 0, .int .i64 0, .int .i64 0, .int .i64 0, .int .i64 0, .int .i64 0]) ?_ 5 _ rfl; (with_reducible repeat (first | refine blk_drewN ?_ _ | refine blk_drew ?_ | refine blk_alloc ?_ _)); refine blk_put (cs := #[.int .i64 0, .int .u64 0, .int .i64 0, .int .i64 0, .int .i64 0, .int .i64 0, .int .i64 0]) ?_ 4 _ rfl; (with_reducible repeat (first | refine blk_drewN ?_ _ | refine blk_drew ?_ | refine blk_alloc ?_ _)); refine blk_put (cs := #[.int .i64 0, .int .u64 0, .int .i64 0, .int .i64 0, .int .i64 0, .int .i64 0, .int .i64 0]) ?_ 3 _ rfl; (with_reducible repeat (first | refine blk_drewN ?_ _ | refine blk_drew ?_ | refine blk_alloc ?_ _)); refine blk_put (cs := #[.int .i64 0, .int .u64 0, .int .i64 0, .int .i64 0, .int .i64 0, .int .i64 0, .int .i64 0]) ?_ 2 _ rfl; (with_reducible repeat (first | refine blk_drewN ?_ _ | refine blk_drew ?_ | refine blk_alloc ?_ _)); refine blk_put (cs := #[.int .i64 0, .int .u64 0, .int .i64 0, .int .i64 0, .int .i64 0, .int .i64 0, .int .i64 0]) ?_ 1 _ rfl; (with_reducible repeat (first | refine blk_drewN ?_ _ | refine blk_drew ?_ | refine blk_alloc ?_ _)); refine blk_put (cs := #[.int .i64 0, .int .u64 0, .int .i64 0, .int .i64 0, .int .i64 0, .int .i64 0, .int .i64 0]) ?_ 0 _ rfl; (with_reducible repeat (first | refine blk_drewN ?_ _ | refine blk_drew ?_ | refine blk_alloc ?_ _)); exact BK118.out) Tryd.underlying24 rfl (by kernel_rfl)) rfl ?_
  exact ⟨by first | rfl | (simp [errW_none, errW_some] <;> rfl) | (simp [*, errW_none, errW_some] <;> rfl), by repeat (first | (with_reducible first | exact HB.out | apply below_alloc | apply pw_below_drewN | apply below_drew1 | refine below_set ?_ GE118.out) | exact HB.out)⟩

end Go.Proofs.YtpkmhepoeefgkaaDoor.Pr
