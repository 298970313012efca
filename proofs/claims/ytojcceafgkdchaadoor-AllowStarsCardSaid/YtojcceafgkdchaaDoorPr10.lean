-- Made by a program of this session (wip/xp/xp.py), over the print's words.
import Derived.Test.YtojcceafgkdchaaDoorPr0
import Derived.Test.YtojcceafgkdchaaDoorG0
namespace Go.Proofs.YtojcceafgkdchaaDoor.Pr
open Go.RowKit Go.Proofs.YtojcceafgkdchaaDoorW.PrintWords Go.Proofs.YtojcceafgkdchaaDoorW.PrintLast Go.Proofs.YtojcceafgkdchaaDoorW.PrintMore
attribute [local go_sem] max2_int min2_int max_two min_two max_three min_three max_four min_four   -- for this text's walks alone
set_option linter.unusedVariables false
set_option linter.unusedSimpArgs false

/-! ### lockkeeperlaw0_Low: function 23 -/
def lockkeeperlaw0_Low.f (a0 : Int) (a1 : Int) : Option (Int) := if (IntKind.u64.wrap (a1)) = 0 then (none) else (some (wrap64 (Int.tmod (IntKind.u64.wrap (a0)) (IntKind.u64.wrap (a1)))))
set_option maxHeartbeats 8000000 in
set_option maxRecDepth 100000 in
theorem lockkeeperlaw0_Low.calls (a0 : Int) (a1 : Int) (r : Int) (w : World) (h : lockkeeperlaw0_Low.f a0 a1 = some r) :
    Calls Tryd.prog 23 #[.int .i64 a0, .int .i64 a1] w fun e w' => e = .returned (.int .i64 r) ∧ Drawn0 w w' := by
  have H : (if (IntKind.u64.wrap (a1)) = 0 then (none) else (some (wrap64 (Int.tmod (IntKind.u64.wrap (a0)) (IntKind.u64.wrap (a1)))))) = some r := h
  clear h
  by_cases c3 : (IntKind.u64.wrap (a1)) = 0
  · rw [if_pos c3] at H
    exact absurd H (by simp)
  · rw [if_neg c3] at H
    have c3b0 : ((IntKind.u64.wrap (a1)) == 0) = false := beq_eq_false_iff_ne.mpr c3
    have c3b1 : ((IntKind.u64.wrap (a1)) != 0) = true := bne_iff_ne.mpr c3
    obtain rfl := Option.some.inj H
    go_enter Tryd.func23, Tryd.ntmps23
    go_wp2
    go_ret
    exact ⟨by first | rfl | (simp; done) | (simp [*]; done), by repeat (first | exact Drawn0.refl _ | apply Drawn0.step)⟩

/-! ### lockkeeperlaw1_OctetTrims_1: function 22 -/
def lockkeeperlaw1_OctetTrims_1.f (a0 : Int) : Option (ByteArray) := (lockkeeperlaw0_Low.f a0 4).bind fun t194 => (if 0 ≤ t194 then (if t194 < 4 then (some (rdOf ByteArray.empty ([(⟨#[9]⟩ : ByteArray), (⟨#[10]⟩ : ByteArray), (⟨#[13]⟩ : ByteArray), (⟨#[32]⟩ : ByteArray)] : List ByteArray) t194)) else (none)) else (none))
set_option maxHeartbeats 8000000 in
set_option maxRecDepth 100000 in
theorem lockkeeperlaw1_OctetTrims_1.calls (a0 : Int) (r : ByteArray) (w : World) (h : lockkeeperlaw1_OctetTrims_1.f a0 = some r) :
    Calls Tryd.prog 22 #[.int .i64 a0] w fun e w' => e = .returned (.string r) ∧ Drawn0 w w' := by
  have H : ((lockkeeperlaw0_Low.f a0 4).bind fun t194 => (if 0 ≤ t194 then (if t194 < 4 then (some (rdOf ByteArray.empty ([(⟨#[9]⟩ : ByteArray), (⟨#[10]⟩ : ByteArray), (⟨#[13]⟩ : ByteArray), (⟨#[32]⟩ : ByteArray)] : List ByteArray) t194)) else (none)) else (none))) = some r := h
  clear h
  replace H := Option.bind_eq_some_iff.mp H
  obtain ⟨t194, A20, H⟩ := H
  replace H : (if 0 ≤ t194 then (if t194 < 4 then (some (rdOf ByteArray.empty ([(⟨#[9]⟩ : ByteArray), (⟨#[10]⟩ : ByteArray), (⟨#[13]⟩ : ByteArray), (⟨#[32]⟩ : ByteArray)] : List ByteArray) t194)) else (none)) else (none)) = some r := H
  have A2 := Aside0.mk A20
  clear A20
  by_cases c3 : 0 ≤ t194
  · rw [if_pos c3] at H
    have c3b0 : decide (0 ≤ t194) = true := decide_eq_true c3
    clear c3
    by_cases c4 : t194 < 4
    · rw [if_pos c4] at H
      have c4b0 : decide (t194 < 4) = true := decide_eq_true c4
      clear c4
      obtain rfl := Option.some.inj H
      go_enter Tryd.func22, Tryd.ntmps22
      go_wp2_with (first | ((with_reducible refine gate_callee (f := 23) rfl ?_); refine goesL_ (some 5) rfl rfl Tryd.func23 (by kernel_rfl) rfl #[.int .i64 a0, .int .i64 4] rfl (by (try simp only [List.map_toArray, List.map_cons, List.map_nil]); first | done | rfl | (simp only [List.length_drop, List.length_take]; rfl)) ?_; (with_reducible refine (lockkeeperlaw0_Low.calls a0 4 t194 _ A2.out).mono ?_); rintro e w' ⟨rfl, ⟨nd, rfl⟩⟩; refine ⟨_, rfl, ?_⟩; have hx5 := XA.arr_at (P := Tryd.prog) (t := 31) (e := 9) 4 ([(⟨#[9]⟩ : ByteArray), (⟨#[10]⟩ : ByteArray), (⟨#[13]⟩ : ByteArray), (⟨#[32]⟩ : ByteArray)] : List ByteArray) Tryd.underlying31 Tryd.underlying9 (by kernel_rfl) rfl #[Value.string (⟨#[9]⟩ : ByteArray), Value.string (⟨#[10]⟩ : ByteArray), Value.string (⟨#[13]⟩ : ByteArray), Value.string (⟨#[32]⟩ : ByteArray)] rfl (t194 : Int) (of_decide_eq_true (by first | (with_reducible assumption) | assumption)) (of_decide_eq_true (by first | (with_reducible assumption) | assumption))))
      go_ret
      exact ⟨by first | rfl | (simp; done) | (simp [*]; done), by repeat (first | exact Drawn0.refl _ | apply Drawn0.step)⟩
    · rw [if_neg c4] at H
      exact absurd H (by simp)
  · rw [if_neg c3] at H
    exact absurd H (by simp)

end Go.Proofs.YtojcceafgkdchaaDoor.Pr
