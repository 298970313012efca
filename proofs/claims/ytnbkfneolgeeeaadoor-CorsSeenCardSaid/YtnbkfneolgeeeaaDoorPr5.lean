-- Made by a program of this session (wip/xp/xp.py), over the print's words.
import Derived.Test.YtnbkfneolgeeeaaDoorPr0
import Derived.Test.YtnbkfneolgeeeaaDoorPr2
import Derived.Test.YtnbkfneolgeeeaaDoorPr3
import Derived.Test.YtnbkfneolgeeeaaDoorPr4
import Derived.Test.YtnbkfneolgeeeaaDoorG12
import Derived.Test.YtnbkfneolgeeeaaDoorG7
namespace Go.Proofs.YtnbkfneolgeeeaaDoor.Pr
open Go.RowKit Go.Proofs.YtnbkfneolgeeeaaDoorW.PrintWords Go.Proofs.YtnbkfneolgeeeaaDoorW.PrintLast Go.Proofs.YtnbkfneolgeeeaaDoorW.PrintMore
attribute [local go_sem] max2_int min2_int max_two min_two max_three min_three max_four min_four   -- for this text's walks alone
set_option linter.unusedVariables false
set_option linter.unusedSimpArgs false

/-! ### cors_Seen: function 12 -/
mutual
def cors_Seen.j0 : Nat → List (S35) → List ByteArray → Bool → Option ((List (S35)))
 | 0, _, _, _ => none
 | k + 1, x1, x7, x8 => (header_Norm.f k x1).bind fun t149 => (cors_Seen.l0 k x7 x8 ([] : List (S35)) t149 (t149.length : Int) 0)
def cors_Seen.l0 : Nat → List ByteArray → Bool → List (S35) → List (S35) → Int → Int → Option ((List (S35)))
 | 0, _, _, _, _, _, _ => none
 | k + 1, x7, x8, x9, x27, x28, x29 => if x29 < x28 then (if 0 ≤ x29 then (if x29 < (x27.length : Int) then (if x8 = true then (cors_Seen.j2 k x7 x8 x9 true x27 x28 x29 ((rd_T35 x27 x29).f0) ((rd_T35 x27 x29).f1)) else ((slices_ContainsFunc.f x7 ((rd_T35 x27 x29).f0)).bind fun t154 => (cors_Seen.j2 k x7 x8 x9 t154 x27 x28 x29 ((rd_T35 x27 x29).f0) ((rd_T35 x27 x29).f1)))) else (none)) else (none)) else (some x9)
def cors_Seen.j2 : Nat → List ByteArray → Bool → List (S35) → Bool → List (S35) → Int → Int → ByteArray → ByteArray → Option ((List (S35)))
 | 0, _, _, _, _, _, _, _, _, _ => none
 | k + 1, x7, x8, x9, x12, x27, x28, x29, x154000, x154001 => if x154000.toList = ([99, 97, 99, 104, 101, 45, 99, 111, 110, 116, 114, 111, 108] : List UInt8) then (cors_Seen.j3 k x7 x8 x9 x12 x27 x28 x29 x154000 (x154000.toList == ([99, 97, 99, 104, 101, 45, 99, 111, 110, 116, 114, 111, 108] : List UInt8)) x154000 x154001) else (if x154000.toList = ([99, 111, 110, 116, 101, 110, 116, 45, 108, 97, 110, 103, 117, 97, 103, 101] : List UInt8) then (cors_Seen.j3 k x7 x8 x9 x12 x27 x28 x29 x154000 (x154000.toList == ([99, 111, 110, 116, 101, 110, 116, 45, 108, 97, 110, 103, 117, 97, 103, 101] : List UInt8)) x154000 x154001) else (if x154000.toList = ([99, 111, 110, 116, 101, 110, 116, 45, 108, 101, 110, 103, 116, 104] : List UInt8) then (cors_Seen.j3 k x7 x8 x9 x12 x27 x28 x29 x154000 (x154000.toList == ([99, 111, 110, 116, 101, 110, 116, 45, 108, 101, 110, 103, 116, 104] : List UInt8)) x154000 x154001) else (if x154000.toList = ([99, 111, 110, 116, 101, 110, 116, 45, 116, 121, 112, 101] : List UInt8) then (cors_Seen.j3 k x7 x8 x9 x12 x27 x28 x29 x154000 (x154000.toList == ([99, 111, 110, 116, 101, 110, 116, 45, 116, 121, 112, 101] : List UInt8)) x154000 x154001) else (if x154000.toList = ([101, 120, 112, 105, 114, 101, 115] : List UInt8) then (cors_Seen.j3 k x7 x8 x9 x12 x27 x28 x29 x154000 (x154000.toList == ([101, 120, 112, 105, 114, 101, 115] : List UInt8)) x154000 x154001) else (if x154000.toList = ([108, 97, 115, 116, 45, 109, 111, 100, 105, 102, 105, 101, 100] : List UInt8) then (cors_Seen.j3 k x7 x8 x9 x12 x27 x28 x29 x154000 (x154000.toList == ([108, 97, 115, 116, 45, 109, 111, 100, 105, 102, 105, 101, 100] : List UInt8)) x154000 x154001) else (cors_Seen.j3 k x7 x8 x9 x12 x27 x28 x29 x154000 (x154000.toList == ([112, 114, 97, 103, 109, 97] : List UInt8)) x154000 x154001))))))
def cors_Seen.j3 : Nat → List ByteArray → Bool → List (S35) → Bool → List (S35) → Int → Int → ByteArray → Bool → ByteArray → ByteArray → Option ((List (S35)))
 | 0, _, _, _, _, _, _, _, _, _, _, _ => none
 | k + 1, x7, x8, x9, x12, x27, x28, x29, x40, x41, x154000, x154001 => if x41 = true then (if x9.length < 4398046511104 then (cors_Seen.l0 k x7 x8 (x9 ++ [(⟨x154000, x154001⟩ : S35)]) x27 x28 (wrap64 (x29 + 1))) else (none)) else (if x40.toList = ([115, 101, 116, 45, 99, 111, 111, 107, 105, 101] : List UInt8) then (cors_Seen.j4 k x7 x8 x9 x12 x27 x28 x29 (x40.toList == ([115, 101, 116, 45, 99, 111, 111, 107, 105, 101] : List UInt8)) x154000 x154001) else (cors_Seen.j4 k x7 x8 x9 x12 x27 x28 x29 (x40.toList == ([115, 101, 116, 45, 99, 111, 111, 107, 105, 101, 50] : List UInt8)) x154000 x154001))
def cors_Seen.j4 : Nat → List ByteArray → Bool → List (S35) → Bool → List (S35) → Int → Int → Bool → ByteArray → ByteArray → Option ((List (S35)))
 | 0, _, _, _, _, _, _, _, _, _, _ => none
 | k + 1, x7, x8, x9, x12, x27, x28, x29, x49, x154000, x154001 => if x49 = true then (cors_Seen.l0 k x7 x8 x9 x27 x28 (wrap64 (x29 + 1))) else (if x12 = true then (if x9.length < 4398046511104 then (cors_Seen.l0 k x7 x8 (x9 ++ [(⟨x154000, x154001⟩ : S35)]) x27 x28 (wrap64 (x29 + 1))) else (none)) else (cors_Seen.l0 k x7 x8 x9 x27 x28 (wrap64 (x29 + 1))))
end
def cors_Seen.f (k : Nat) (a0 : Bool) (l1 : List (S35)) : Option ((List (S35))) := (header_Get.f k l1 (⟨#[97, 99, 99, 101, 115, 115, 45, 99, 111, 110, 116, 114, 111, 108, 45, 101, 120, 112, 111, 115, 101, 45, 104, 101, 97, 100, 101, 114, 115]⟩ : ByteArray)).bind fun bt143 => ((octet_Split.f k bt143.1).bind fun t145 => (if a0 = true then (cors_Seen.j0 k l1 t145 false) else ((slices_Contains_string_string.f t145 (⟨#[42]⟩ : ByteArray)).bind fun t148 => (cors_Seen.j0 k l1 t145 t148))))
theorem cors_Seen.mono_l : ∀ k, (∀ y0 y1 y2, LeO (cors_Seen.j0 k y0 y1 y2) (cors_Seen.j0 (k + 1) y0 y1 y2)) ∧ (∀ y0 y1 y2 y3 y4 y5, LeO (cors_Seen.l0 k y0 y1 y2 y3 y4 y5) (cors_Seen.l0 (k + 1) y0 y1 y2 y3 y4 y5)) ∧ (∀ y0 y1 y2 y3 y4 y5 y6 y7 y8, LeO (cors_Seen.j2 k y0 y1 y2 y3 y4 y5 y6 y7 y8) (cors_Seen.j2 (k + 1) y0 y1 y2 y3 y4 y5 y6 y7 y8)) ∧ (∀ y0 y1 y2 y3 y4 y5 y6 y7 y8 y9 y10, LeO (cors_Seen.j3 k y0 y1 y2 y3 y4 y5 y6 y7 y8 y9 y10) (cors_Seen.j3 (k + 1) y0 y1 y2 y3 y4 y5 y6 y7 y8 y9 y10)) ∧ (∀ y0 y1 y2 y3 y4 y5 y6 y7 y8 y9, LeO (cors_Seen.j4 k y0 y1 y2 y3 y4 y5 y6 y7 y8 y9) (cors_Seen.j4 (k + 1) y0 y1 y2 y3 y4 y5 y6 y7 y8 y9))
 | 0 => ⟨fun _ _ _ r h => by simp [cors_Seen.j0] at h, fun _ _ _ _ _ _ r h => by simp [cors_Seen.l0] at h, fun _ _ _ _ _ _ _ _ _ r h => by simp [cors_Seen.j2] at h, fun _ _ _ _ _ _ _ _ _ _ _ r h => by simp [cors_Seen.j3] at h, fun _ _ _ _ _ _ _ _ _ _ r h => by simp [cors_Seen.j4] at h⟩
 | k + 1 => by
  obtain ⟨ih0, ih1, ih2, ih3, ih4⟩ := cors_Seen.mono_l k
  refine ⟨?_, ?_, ?_, ?_, ?_⟩
  ·intro y0 y1 y2
   unfold cors_Seen.j0
   repeat' first
   | (with_reducible exact ih0 _ _ _)
   | (with_reducible exact ih1 _ _ _ _ _ _)
   | (with_reducible exact ih2 _ _ _ _ _ _ _ _ _)
   | (with_reducible exact ih3 _ _ _ _ _ _ _ _ _ _ _)
   | (with_reducible exact ih4 _ _ _ _ _ _ _ _ _ _)
   | (with_reducible exact header_Get.mono _ _ _)
   | (with_reducible exact header_Norm.mono _ _)
   | (with_reducible exact octet_Split.mono _ _)
   | (with_reducible exact LeO.refl _)
   | (with_reducible exact LeO.none _)
   | (with_reducible refine LeO.ite ?_ ?_)
   | (with_reducible refine LeO.bind ?_ (fun _ => ?_))
   | exact ih0 _ _ _
   | exact ih1 _ _ _ _ _ _
   | exact ih2 _ _ _ _ _ _ _ _ _
   | exact ih3 _ _ _ _ _ _ _ _ _ _ _
   | exact ih4 _ _ _ _ _ _ _ _ _ _
   | exact header_Get.mono _ _ _
   | exact header_Norm.mono _ _
   | exact octet_Split.mono _ _
   | exact LeO.none _
   | refine LeO.ite ?_ ?_
   | refine LeO.bind ?_ (fun _ => ?_)
  ·intro y0 y1 y2 y3 y4 y5
   unfold cors_Seen.l0
   repeat' first
   | (with_reducible exact ih0 _ _ _)
   | (with_reducible exact ih1 _ _ _ _ _ _)
   | (with_reducible exact ih2 _ _ _ _ _ _ _ _ _)
   | (with_reducible exact ih3 _ _ _ _ _ _ _ _ _ _ _)
   | (with_reducible exact ih4 _ _ _ _ _ _ _ _ _ _)
   | (with_reducible exact header_Get.mono _ _ _)
   | (with_reducible exact header_Norm.mono _ _)
   | (with_reducible exact octet_Split.mono _ _)
   | (with_reducible exact LeO.refl _)
   | (with_reducible exact LeO.none _)
   | (with_reducible refine LeO.ite ?_ ?_)
   | (with_reducible refine LeO.bind ?_ (fun _ => ?_))
   | exact ih0 _ _ _
   | exact ih1 _ _ _ _ _ _
   | exact ih2 _ _ _ _ _ _ _ _ _
   | exact ih3 _ _ _ _ _ _ _ _ _ _ _
   | exact ih4 _ _ _ _ _ _ _ _ _ _
   | exact header_Get.mono _ _ _
   | exact header_Norm.mono _ _
   | exact octet_Split.mono _ _
   | exact LeO.none _
   | refine LeO.ite ?_ ?_
   | refine LeO.bind ?_ (fun _ => ?_)
  ·intro y0 y1 y2 y3 y4 y5 y6 y7 y8
   unfold cors_Seen.j2
   repeat' first
   | (with_reducible exact ih0 _ _ _)
   | (with_reducible exact ih1 _ _ _ _ _ _)
   | (with_reducible exact ih2 _ _ _ _ _ _ _ _ _)
   | (with_reducible exact ih3 _ _ _ _ _ _ _ _ _ _ _)
   | (with_reducible exact ih4 _ _ _ _ _ _ _ _ _ _)
   | (with_reducible exact header_Get.mono _ _ _)
   | (with_reducible exact header_Norm.mono _ _)
   | (with_reducible exact octet_Split.mono _ _)
   | (with_reducible exact LeO.refl _)
   | (with_reducible exact LeO.none _)
   | (with_reducible refine LeO.ite ?_ ?_)
   | (with_reducible refine LeO.bind ?_ (fun _ => ?_))
   | exact ih0 _ _ _
   | exact ih1 _ _ _ _ _ _
   | exact ih2 _ _ _ _ _ _ _ _ _
   | exact ih3 _ _ _ _ _ _ _ _ _ _ _
   | exact ih4 _ _ _ _ _ _ _ _ _ _
   | exact header_Get.mono _ _ _
   | exact header_Norm.mono _ _
   | exact octet_Split.mono _ _
   | exact LeO.none _
   | refine LeO.ite ?_ ?_
   | refine LeO.bind ?_ (fun _ => ?_)
  ·intro y0 y1 y2 y3 y4 y5 y6 y7 y8 y9 y10
   unfold cors_Seen.j3
   repeat' first
   | (with_reducible exact ih0 _ _ _)
   | (with_reducible exact ih1 _ _ _ _ _ _)
   | (with_reducible exact ih2 _ _ _ _ _ _ _ _ _)
   | (with_reducible exact ih3 _ _ _ _ _ _ _ _ _ _ _)
   | (with_reducible exact ih4 _ _ _ _ _ _ _ _ _ _)
   | (with_reducible exact header_Get.mono _ _ _)
   | (with_reducible exact header_Norm.mono _ _)
   | (with_reducible exact octet_Split.mono _ _)
   | (with_reducible exact LeO.refl _)
   | (with_reducible exact LeO.none _)
   | (with_reducible refine LeO.ite ?_ ?_)
   | (with_reducible refine LeO.bind ?_ (fun _ => ?_))
   | exact ih0 _ _ _
   | exact ih1 _ _ _ _ _ _
   | exact ih2 _ _ _ _ _ _ _ _ _
   | exact ih3 _ _ _ _ _ _ _ _ _ _ _
   | exact ih4 _ _ _ _ _ _ _ _ _ _
   | exact header_Get.mono _ _ _
   | exact header_Norm.mono _ _
   | exact octet_Split.mono _ _
   | exact LeO.none _
   | refine LeO.ite ?_ ?_
   | refine LeO.bind ?_ (fun _ => ?_)
  ·intro y0 y1 y2 y3 y4 y5 y6 y7 y8 y9
   unfold cors_Seen.j4
   repeat' first
   | (with_reducible exact ih0 _ _ _)
   | (with_reducible exact ih1 _ _ _ _ _ _)
   | (with_reducible exact ih2 _ _ _ _ _ _ _ _ _)
   | (with_reducible exact ih3 _ _ _ _ _ _ _ _ _ _ _)
   | (with_reducible exact ih4 _ _ _ _ _ _ _ _ _ _)
   | (with_reducible exact header_Get.mono _ _ _)
   | (with_reducible exact header_Norm.mono _ _)
   | (with_reducible exact octet_Split.mono _ _)
   | (with_reducible exact LeO.refl _)
   | (with_reducible exact LeO.none _)
   | (with_reducible refine LeO.ite ?_ ?_)
   | (with_reducible refine LeO.bind ?_ (fun _ => ?_))
   | exact ih0 _ _ _
   | exact ih1 _ _ _ _ _ _
   | exact ih2 _ _ _ _ _ _ _ _ _
   | exact ih3 _ _ _ _ _ _ _ _ _ _ _
   | exact ih4 _ _ _ _ _ _ _ _ _ _
   | exact header_Get.mono _ _ _
   | exact header_Norm.mono _ _
   | exact octet_Split.mono _ _
   | exact LeO.none _
   | refine LeO.ite ?_ ?_
   | refine LeO.bind ?_ (fun _ => ?_)
theorem cors_Seen.mono : ∀ a0 a1 k, LeO (cors_Seen.f k a0 a1) (cors_Seen.f (k + 1) a0 a1) := by
 intro a0 a1 k
 obtain ⟨ih0, ih1, ih2, ih3, ih4⟩ := cors_Seen.mono_l k
 unfold cors_Seen.f
 repeat' first
   | (with_reducible exact ih0 _ _ _)
   | (with_reducible exact ih1 _ _ _ _ _ _)
   | (with_reducible exact ih2 _ _ _ _ _ _ _ _ _)
   | (with_reducible exact ih3 _ _ _ _ _ _ _ _ _ _ _)
   | (with_reducible exact ih4 _ _ _ _ _ _ _ _ _ _)
   | (with_reducible exact header_Get.mono _ _ _)
   | (with_reducible exact header_Norm.mono _ _)
   | (with_reducible exact octet_Split.mono _ _)
   | (with_reducible exact LeO.refl _)
   | (with_reducible exact LeO.none _)
   | (with_reducible refine LeO.ite ?_ ?_)
   | (with_reducible refine LeO.bind ?_ (fun _ => ?_))
   | exact ih0 _ _ _
   | exact ih1 _ _ _ _ _ _
   | exact ih2 _ _ _ _ _ _ _ _ _
   | exact ih3 _ _ _ _ _ _ _ _ _ _ _
   | exact ih4 _ _ _ _ _ _ _ _ _ _
   | exact header_Get.mono _ _ _
   | exact header_Norm.mono _ _
   | exact octet_Split.mono _ _
   | exact LeO.none _
   | refine LeO.ite ?_ ?_
   | refine LeO.bind ?_ (fun _ => ?_)
set_option maxHeartbeats 8000000 in
set_option maxRecDepth 100000 in
theorem cors_Seen.calls (k : Nat) (a0 : Bool) (A1 : Option Addr) (c1 : Nat) (l1 : List (S35)) (r : List (S35)) (w : World) (hr1 : Kd.C k35 w A1 l1.length l1) (hc1 : l1.length ≤ c1) (h : cors_Seen.f k a0 l1 = some r) :
  Calls Tryd.prog 12 #[.bool a0, .slice A1 l1.length c1] w fun e w' => ∃ v0_ : Value, e = .returned (v0_) ∧ Kd.R k35 35 w' w.heap.size (fun _ => True) v0_ r ∧ Below w.heap.size w w' := by
 have hu35 := Tryd.underlying35
 have HR1 := Aside0.mk hr1
 have HC1 := Aside0.mk hc1
 clear hr1 hc1
 have HB := Aside0.mk (Below.refl w.heap.size w)
 have H : ((header_Get.f k l1 (⟨#[97, 99, 99, 101, 115, 115, 45, 99, 111, 110, 116, 114, 111, 108, 45, 101, 120, 112, 111, 115, 101, 45, 104, 101, 97, 100, 101, 114, 115]⟩ : ByteArray)).bind fun bt143 => ((octet_Split.f k bt143.1).bind fun t145 => (if a0 = true then (cors_Seen.j0 k l1 t145 false) else ((slices_Contains_string_string.f t145 (⟨#[42]⟩ : ByteArray)).bind fun t148 => (cors_Seen.j0 k l1 t145 t148))))) = some r := h
 clear h
 replace H := Option.bind_eq_some_iff.mp H
 obtain ⟨⟨t143, t144⟩, A30, H⟩ := H
 replace H : ((octet_Split.f k t143).bind fun t145 => (if a0 = true then (cors_Seen.j0 k l1 t145 false) else ((slices_Contains_string_string.f t145 (⟨#[42]⟩ : ByteArray)).bind fun t148 => (cors_Seen.j0 k l1 t145 t148)))) = some r := H
 have A3 := Aside0.mk A30
 clear A30
 replace H := Option.bind_eq_some_iff.mp H
 obtain ⟨t145, A40, H⟩ := H
 replace H : (if a0 = true then (cors_Seen.j0 k l1 t145 false) else ((slices_Contains_string_string.f t145 (⟨#[42]⟩ : ByteArray)).bind fun t148 => (cors_Seen.j0 k l1 t145 t148))) = some r := H
 have A4 := Aside0.mk A40
 clear A40
 have HC5 := Aside0.mk H
 clear H
 go_enter Tryd.func12, Tryd.ntmps12
 go_upto_region 3 with (first | ((with_reducible refine gate_callee (f := 25) rfl ?_); refine goesL_ (some 15) rfl rfl Tryd.func25 (by kernel_rfl) rfl #[.slice A1 l1.length c1, .string (⟨#[97, 99, 99, 101, 115, 115, 45, 99, 111, 110, 116, 114, 111, 108, 45, 101, 120, 112, 111, 115, 101, 45, 104, 101, 97, 100, 101, 114, 115]⟩ : ByteArray)] rfl (by (try simp only [List.map_toArray, List.map_cons, List.map_nil]); first | done | rfl | (simp only [List.length_drop, List.length_take]; rfl)) ?_; (with_reducible refine (header_Get.calls k _ _ l1 (⟨#[97, 99, 99, 101, 115, 115, 45, 99, 111, 110, 116, 114, 111, 108, 45, 101, 120, 112, 111, 115, 101, 45, 104, 101, 97, 100, 101, 114, 115]⟩ : ByteArray) t143 t144 _ ?side1 ?side2 A3.out).mono ?_); (case side1 => repeat (first | exact HR1.out | (with_reducible refine Kd.C_alloc ?_ _) | (with_reducible refine Kd.C_drewN ?_ _) | (with_reducible refine Kd.C_drew ?_))); (case side2 => exact HC1.out); rintro e w6 ⟨rfl, hb⟩; refine ⟨_, rfl, ?_⟩; have n0_ := Aside0.mk (below_step (by repeat (first | (with_reducible first | exact HB.out | apply below_alloc | apply pw_below_drewN | apply below_drew1) | exact HB.out)) hb); clear HB; have HB := n0_; clear n0_; (try clear hb); (try clear hb2); (try clear hk); (try clear hi)) | ((with_reducible refine gate_callee (f := 27) rfl ?_); refine goesL_ (some 19) rfl rfl Tryd.func27 (by kernel_rfl) rfl #[.string t143] rfl (by (try simp only [List.map_toArray, List.map_cons, List.map_nil]); first | done | rfl | (simp only [List.length_drop, List.length_take]; rfl)) ?_; (with_reducible refine (octet_Split.calls k t143 t145 _ A4.out).mono ?_); rintro e w7 ⟨v146, rfl, ho0, hb⟩; refine ⟨_, rfl, ?_⟩; have n0_ := Aside0.mk (Kd.R_lower ho0 (below_size (by repeat (first | (with_reducible first | exact HB.out | apply below_alloc | apply pw_below_drewN | apply below_drew1) | exact HB.out)))); have n1_ := Aside0.mk (below_step (by repeat (first | (with_reducible first | exact HB.out | apply below_alloc | apply pw_below_drewN | apply below_drew1) | exact HB.out)) hb); clear HB; have HO147 := n0_; have HB := n1_; clear n0_ n1_; (try clear hb); (try clear hb2); (try clear hk); (try clear hi); (try clear ho0)))
 (try simp only [Act.put, List.setIfInBounds_toArray, List.set_cons_zero, List.set_cons_succ])
 go_cut [8] (fun v8 wc => ∃ (kq : Nat) (x8_4 : Bool), v8 = .bool x8_4 ∧ Aside0 (cors_Seen.j0 kq l1 t145 x8_4 = some r) ∧ Aside0 (kq ≤ k) ∧ Aside0 (Kd.R Kd.string 9 wc w.heap.size (fun _ => True) v146 t145) ∧ Aside0 (Below w.heap.size w wc))
 case first =>
  have H := HC5.out
  clear HC5
  by_cases c8 : a0 = true
  ·subst c8
   have H1 : (cors_Seen.j0 k l1 t145 false) = some r := by rw [if_pos rfl] at H; exact H
   clear H
   have H := H1
   clear H1
   have H' := Aside0.mk H
   clear H
   go_wp2
   go_meet
   case rel => exact ⟨_, (false), (by first | rfl | (simp; done) | (simp [*]; done)), H', ⟨by first | omega | exact Nat.le_refl _⟩, ⟨by (with_reducible repeat (first | apply Kd.R_alloc | apply Kd.R_drewN | apply Kd.R_drew)); exact HO147.out⟩, ⟨by repeat (first | (with_reducible first | exact HB.out | apply below_alloc | apply pw_below_drewN | apply below_drew1) | exact HB.out)⟩⟩
  ·replace c8 := Bool.eq_false_iff.mpr c8
   subst c8
   have H1 : ((slices_Contains_string_string.f t145 (⟨#[42]⟩ : ByteArray)).bind fun t148 => (cors_Seen.j0 k l1 t145 t148)) = some r := by rw [if_neg (show ¬ (false = true) by decide)] at H; exact H
   clear H
   have H := H1
   clear H1
   replace H := Option.bind_eq_some_iff.mp H
   obtain ⟨t148, A90, H⟩ := H
   replace H : (cors_Seen.j0 k l1 t145 t148) = some r := H
   have A9 := Aside0.mk A90
   clear A90
   have H' := Aside0.mk H
   clear H
   obtain ⟨Ao10, co10, eo10⟩ := Kd.R_slice HO147.out
   subst eo10
   go_wp2_with (first | (go_at_call 28; (with_reducible refine (slices_Contains_string_string.calls _ _ t145 (⟨#[42]⟩ : ByteArray) t148 _ ?side1 ?side2 A9.out).mono ?_); (case side1 => repeat (first | exact (Kd.R_reads' HO147.out).2.2 | (with_reducible refine Kd.C_alloc ?_ _) | (with_reducible refine Kd.C_drewN ?_ _) | (with_reducible refine Kd.C_drew ?_))); (case side2 => exact (Kd.R_reads' HO147.out).2.1); rintro e w' ⟨rfl, ⟨nd, rfl⟩⟩))
   go_meet
   case rel => exact ⟨_, (t148), (by first | rfl | (simp; done) | (simp [*]; done)), H', ⟨by first | omega | exact Nat.le_refl _⟩, ⟨by (with_reducible repeat (first | apply Kd.R_alloc | apply Kd.R_drewN | apply Kd.R_drew)); exact HO147.out⟩, ⟨by repeat (first | (with_reducible first | exact HB.out | apply below_alloc | apply pw_below_drewN | apply below_drew1) | exact HB.out)⟩⟩
 case rest =>
  clear HC5
  try clear c1
  try clear c2
  try clear p2
  try clear c8
  obtain ⟨kq, x8_4, rfl, HA, HJ4, HO_7, HB⟩ := hcut
  cases kq with
  | zero => exact absurd HA.out (by simp [cors_Seen.j0])
  | succ kj4 =>
   have H := HA.out
   clear HA
   simp only [cors_Seen.j0] at H
   replace H := Option.bind_eq_some_iff.mp H
   obtain ⟨t149, A110, H⟩ := H
   replace H : (cors_Seen.l0 kj4 t145 x8_4 ([] : List (S35)) t149 (t149.length : Int) 0) = some r := H
   have A11 := Aside0.mk A110
   clear A110
   have H' := Aside0.mk H
   clear H
   go_wp2_with (first | ((with_reducible refine gate_callee (f := 16) rfl ?_); refine goesL_ (some 27) rfl rfl Tryd.func16 (by kernel_rfl) rfl #[.slice A1 l1.length c1] rfl (by (try simp only [List.map_toArray, List.map_cons, List.map_nil]); first | done | rfl | (simp only [List.length_drop, List.length_take]; rfl)) ?_; (with_reducible refine (header_Norm.calls kj4 _ _ l1 t149 _ ?side1 ?side2 A11.out).mono ?_); (case side1 => repeat (first | exact (Kd.C_below HR1.out HB.out) | (with_reducible refine Kd.C_alloc ?_ _) | (with_reducible refine Kd.C_drewN ?_ _) | (with_reducible refine Kd.C_drew ?_))); (case side2 => exact HC1.out); rintro e w12 ⟨v150, rfl, ho0, hb⟩; refine ⟨_, rfl, ?_⟩; have n0_ := Aside0.mk (Kd.R_below (by (with_reducible repeat (first | apply Kd.R_alloc | apply Kd.R_drewN | apply Kd.R_drew)); exact HO_7.out) hb); have n1_ := Aside0.mk (Kd.R_lower ho0 (below_size (by repeat (first | (with_reducible first | exact HB.out | apply below_alloc | apply pw_below_drewN | apply below_drew1) | exact HB.out)))); have n2_ := Aside0.mk (below_step (by repeat (first | (with_reducible first | exact HB.out | apply below_alloc | apply pw_below_drewN | apply below_drew1) | exact HB.out)) hb); clear HO_7; clear HB; have HO_7 := n0_; have HO151 := n1_; have HB := n2_; clear n0_ n1_ n2_; (try clear hb); (try clear hb2); (try clear hk); (try clear hi); (try clear ho0); obtain ⟨Ao13, co13, eo13⟩ := Kd.R_slice HO151.out; subst eo13))
   go_loopg [9, 29] kj4 (fun kq v9 v29 w' => ∃ (x9_2 : List (S35)) (x29_2 : Int), v29 = .int .i64 x29_2 ∧ Aside0 (cors_Seen.l0 kq t145 x8_4 x9_2 t149 (t149.length : Int) x29_2 = some r) ∧ Aside0 (kq ≤ kj4) ∧ Aside0 (Kd.R Kd.string 9 w' w.heap.size (fun _ => True) v146 t145) ∧ Aside0 (Kd.R k35 35 w' w.heap.size (fun k_ => some k_ ≠ ((.slice Ao13 t149.length co13) : Value).ownBlock) v9 x9_2) ∧ Aside0 (Kd.R k35 35 w' w.heap.size (fun k_ => some k_ ≠ (v9 : Value).ownBlock) (.slice Ao13 t149.length co13) t149) ∧ Aside0 (Below w.heap.size w w'))
   case atStart => exact ⟨(([] : List (S35))), (0), (by first | rfl | (simp; done) | (simp [*]; done)), H', ⟨Nat.le_refl _⟩, ⟨by (with_reducible repeat (first | apply Kd.R_alloc | apply Kd.R_drewN | apply Kd.R_drew)); exact HO_7.out⟩, ⟨by first | exact Kd.R_nil _ _ _ _ _ | exact Kd.N_nil _ _ _ _ _ | exact Kd.V_nil _ _ _ _ _ | exact Kd.Q_nil _ _ _ _ _ | exact Kd.S_nil _ _ _ _ _⟩, ⟨by (with_reducible repeat (first | apply Kd.R_alloc | apply Kd.R_drewN | apply Kd.R_drew)); exact Kd.R_mono HO151.out (fun _ hk => (by simp [Value.ownBlock]))⟩, ⟨by repeat (first | (with_reducible first | exact HB.out | apply below_alloc | apply pw_below_drewN | apply below_drew1) | exact HB.out)⟩⟩
   case round =>
    clear H'
    try clear c1
    try clear c2
    try clear p2
    try clear c8
    try clear c12
    try clear p2
    obtain ⟨x9_2, x29_2, rfl, HA, HK2, HO_7, HO_9, HO_27, HB⟩ := hrel
    cases gk with
    | zero => exact absurd HA.out (by simp [cors_Seen.l0])
    | succ k2 =>
     have H := HA.out
     clear HA
     simp only [cors_Seen.l0] at H
     by_cases c14 : x29_2 < (t149.length : Int)
     ·rw [if_pos c14] at H
      have c14b0 : decide (x29_2 < (t149.length : Int)) = true := decide_eq_true c14
      clear c14
      by_cases c15 : 0 ≤ x29_2
      ·rw [if_pos c15] at H
       have c15b0 : decide (0 ≤ x29_2) = true := decide_eq_true c15
       clear c15
       by_cases c16 : x29_2 < (t149.length : Int)
       ·rw [if_pos c16] at H
        have c16b0 : decide (x29_2 < (t149.length : Int)) = true := decide_eq_true c16
        clear c16
        have HC17 := Aside0.mk H
        clear H
        have p152 : 0 ≤ (x29_2 : Int) := of_decide_eq_true (by first | (with_reducible assumption) | assumption)
        have q152 : x29_2 < (t149.length : Int) := of_decide_eq_true (by first | (with_reducible assumption) | assumption)
        obtain ⟨ad152, e152, hx152_0, hx152_1⟩ := at_T35 (Kd.R_reads' HO_27.out).2.2 x29_2 p152 q152
        cases e152
        replace p152 := eq_true p152
        replace q152 := eq_true q152
        go_upto_region 8 with (first | ((with_reducible refine gate_dst (N := 11) rfl ?_); refine box_event ?hg (N := 11) ?hd (cs := #[.string (⟨#[]⟩ : ByteArray), .string (⟨#[]⟩ : ByteArray)]) (t := 35) ?hr ?_; (case hd => rfl); (case hg => rfl); (case hr => first | (go_simp; done) | (go_simp; rfl)); intro gb153 hg w18 hbox hb; have n0_ := Aside0.mk (Kd.R_below (by (with_reducible repeat (first | apply Kd.R_alloc | apply Kd.R_drewN | apply Kd.R_drew)); exact HO_7.out) hb); have n1_ := Aside0.mk (Kd.R_below (Kd.R_elderB (by (with_reducible repeat (first | apply Kd.R_alloc | apply Kd.R_drewN | apply Kd.R_drew)); exact HO_9.out) gb153 (Nat.le_of_eq hg.symm)) hb); have n2_ := Aside0.mk (Kd.R_below (Kd.R_elderB (by (with_reducible repeat (first | apply Kd.R_alloc | apply Kd.R_drewN | apply Kd.R_drew)); exact HO_27.out) gb153 (Nat.le_of_eq hg.symm)) hb); have n3_ := Aside0.mk (below_step (by repeat (first | (with_reducible first | exact HB.out | apply below_alloc | apply pw_below_drewN | apply below_drew1) | exact HB.out)) hb); have n4_ := Aside0.mk (hbox); have n5_ := Aside0.mk ((by rw [hg]; exact (below_size (by repeat (first | (with_reducible first | exact HB.out | apply below_alloc | apply pw_below_drewN | apply below_drew1) | exact HB.out))) : w.heap.size ≤ gb153)); have n6_ := Aside0.mk ((by rw [hg]; exact (below_size (by repeat (first | (with_reducible first | exact HB.out | apply below_alloc | apply pw_below_drewN | apply below_drew1) | exact HB.out))) : w.heap.size ≤ gb153)); clear HO_7; clear HO_9; clear HO_27; clear HB; have HO_7 := n0_; have HO_9 := n1_; have HO_27 := n2_; have HB := n3_; have BK153 := n4_; have GW153 := n5_; have GE153 := n6_; clear n0_ n1_ n2_ n3_ n4_ n5_ n6_; clear hb hbox hg; have hcz19_0 : w18.cell? ⟨gb153, 0, none⟩ = some (.string (⟨#[]⟩ : ByteArray)) := (blk_cell BK153.out 0).trans rfl; have hcz19_1 : w18.cell? ⟨gb153, 1, none⟩ = some (.string (⟨#[]⟩ : ByteArray)) := (blk_cell BK153.out 1).trans rfl; have hfz19_0 := blk_frozen BK153.out 0; have hfz19_1 := blk_frozen BK153.out 1))
        (try simp only [Act.put, List.setIfInBounds_toArray, List.set_cons_zero, List.set_cons_succ])
        go_cut [12] (fun v12 wc => ∃ (kq : Nat) (x12_16 : Bool), v12 = .bool x12_16 ∧ Aside0 (cors_Seen.j2 kq t145 x8_4 x9_2 x12_16 t149 (t149.length : Int) x29_2 ((rd_T35 t149 x29_2).f0) ((rd_T35 t149 x29_2).f1) = some r) ∧ Aside0 (kq ≤ k2) ∧ Aside0 (Kd.R Kd.string 9 wc w.heap.size (fun _ => True) v146 t145) ∧ Aside0 (Kd.R k35 35 wc w.heap.size (fun k_ => some k_ ≠ ((.slice (some ad152) t149.length co13) : Value).ownBlock ∧ k_ ≠ gb153) u9 x9_2) ∧ Aside0 (Kd.R k35 35 wc w.heap.size (fun k_ => some k_ ≠ (u9 : Value).ownBlock ∧ k_ ≠ gb153) (.slice (some ad152) t149.length co13) t149) ∧ Aside0 (wc.heap[gb153]? = some (.cells #[.string ((rd_T35 t149 x29_2).f0), .string ((rd_T35 t149 x29_2).f1)] 35 (0, 0))) ∧ Aside0 (Below w.heap.size w wc))
        case first =>
         have H := HC17.out
         clear HC17
         by_cases c20 : x8_4 = true
         ·subst c20
          have H1 : (cors_Seen.j2 k2 t145 true x9_2 true t149 (t149.length : Int) x29_2 ((rd_T35 t149 x29_2).f0) ((rd_T35 t149 x29_2).f1)) = some r := by rw [if_pos rfl] at H; exact H
          clear H
          have H := H1
          clear H1
          have H' := Aside0.mk H
          clear H
          go_wp2
          go_meet
          case rel => exact ⟨_, (true), (by first | rfl | (simp; done) | (simp [*]; done)), H', ⟨by have := HJ4.out; have := HK2.out; first | omega | exact Nat.le_refl _⟩, ⟨by (with_reducible repeat (first | apply Kd.R_alloc | apply Kd.R_drewN | apply Kd.R_drew)); exact Kd.R_mono (Kd.R_far (p := ⟨gb153, 1, none⟩) (Kd.R_far (p := ⟨gb153, 0, none⟩) (Kd.R_types HO_7.out BK153.out (by decide)) (fun _ hk => hk.2) (.string ((rd_T35 t149 x29_2).f0))) (fun _ hk => hk.2) (.string ((rd_T35 t149 x29_2).f1))) (fun _ hk => trivial)⟩, ⟨by (with_reducible repeat (first | apply Kd.R_alloc | apply Kd.R_drewN | apply Kd.R_drew)); exact Kd.R_mono (Kd.R_far (p := ⟨gb153, 1, none⟩) (Kd.R_far (p := ⟨gb153, 0, none⟩) (Kd.R_mono HO_9.out (fun k_ hk => (⟨hk, hk.2⟩ : _ ∧ k_ ≠ gb153))) (fun _ hk => hk.2) (.string ((rd_T35 t149 x29_2).f0))) (fun _ hk => hk.2) (.string ((rd_T35 t149 x29_2).f1))) (fun _ hk => ⟨hk.1.1, hk.1.2⟩)⟩, ⟨by (with_reducible repeat (first | apply Kd.R_alloc | apply Kd.R_drewN | apply Kd.R_drew)); exact Kd.R_mono (Kd.R_far (p := ⟨gb153, 1, none⟩) (Kd.R_far (p := ⟨gb153, 0, none⟩) (Kd.R_mono HO_27.out (fun k_ hk => (⟨hk, hk.2⟩ : _ ∧ k_ ≠ gb153))) (fun _ hk => hk.2) (.string ((rd_T35 t149 x29_2).f0))) (fun _ hk => hk.2) (.string ((rd_T35 t149 x29_2).f1))) (fun _ hk => ⟨hk.1.1, hk.1.2⟩)⟩, ⟨by (with_reducible repeat (first | refine blk_drewN ?_ _ | refine blk_drew ?_ | refine blk_alloc ?_ _)); refine blk_put (cs := #[.string ((rd_T35 t149 x29_2).f0), .string (⟨#[]⟩ : ByteArray)]) ?_ 1 _ rfl; (with_reducible repeat (first | refine blk_drewN ?_ _ | refine blk_drew ?_ | refine blk_alloc ?_ _)); refine blk_put (cs := #[.string (⟨#[]⟩ : ByteArray), .string (⟨#[]⟩ : ByteArray)]) ?_ 0 _ rfl; (with_reducible repeat (first | refine blk_drewN ?_ _ | refine blk_drew ?_ | refine blk_alloc ?_ _)); exact BK153.out⟩, ⟨by repeat (first | (with_reducible first | exact HB.out | apply below_alloc | apply pw_below_drewN | apply below_drew1 | refine below_set ?_ GE153.out) | exact HB.out)⟩⟩
         ·replace c20 := Bool.eq_false_iff.mpr c20
          subst c20
          have H1 : ((slices_ContainsFunc.f t145 ((rd_T35 t149 x29_2).f0)).bind fun t154 => (cors_Seen.j2 k2 t145 false x9_2 t154 t149 (t149.length : Int) x29_2 ((rd_T35 t149 x29_2).f0) ((rd_T35 t149 x29_2).f1))) = some r := by rw [if_neg (show ¬ (false = true) by decide)] at H; exact H
          clear H
          have H := H1
          clear H1
          replace H := Option.bind_eq_some_iff.mp H
          obtain ⟨t154, A210, H⟩ := H
          replace H : (cors_Seen.j2 k2 t145 false x9_2 t154 t149 (t149.length : Int) x29_2 ((rd_T35 t149 x29_2).f0) ((rd_T35 t149 x29_2).f1)) = some r := H
          have A21 := Aside0.mk A210
          clear A210
          have H' := Aside0.mk H
          clear H
          obtain ⟨Ao22, co22, eo22⟩ := Kd.R_slice HO_7.out
          subst eo22
          go_wp2_with (first | (go_at_call 29; (with_reducible refine (slices_ContainsFunc.calls _ _ t145 ((rd_T35 t149 x29_2).f0) ((rd_T35 t149 x29_2).f1) gb153 35 t154 _ ?side1 ?side2 ?side3 A21.out).mono ?_); (case side1 => refine (Kd.R_reads' (e := 9) (base := w.heap.size) (ok := fun k_ => True) (n := t145.length) (c := co22) ?_).2.2; exact (by (with_reducible repeat (first | apply Kd.R_alloc | apply Kd.R_drewN | apply Kd.R_drew)); exact (Kd.R_mono (Kd.R_far (p := ⟨gb153, 1, none⟩) (Kd.R_far (p := ⟨gb153, 0, none⟩) (Kd.R_types HO_7.out BK153.out (by decide)) (fun _ hk => hk.2) (.string ((rd_T35 t149 x29_2).f0))) (fun _ hk => hk.2) (.string ((rd_T35 t149 x29_2).f1))) (fun _ h_ => h_.1)))); (case side2 => exact (Kd.R_reads' HO_7.out).2.1); (case side3 => exact (by (with_reducible repeat (first | refine blk_drewN ?_ _ | refine blk_drew ?_ | refine blk_alloc ?_ _)); refine blk_put (cs := #[.string ((rd_T35 t149 x29_2).f0), .string (⟨#[]⟩ : ByteArray)]) ?_ 1 _ rfl; (with_reducible repeat (first | refine blk_drewN ?_ _ | refine blk_drew ?_ | refine blk_alloc ?_ _)); refine blk_put (cs := #[.string (⟨#[]⟩ : ByteArray), .string (⟨#[]⟩ : ByteArray)]) ?_ 0 _ rfl; (with_reducible repeat (first | refine blk_drewN ?_ _ | refine blk_drew ?_ | refine blk_alloc ?_ _)); exact BK153.out)); rintro e w23 ⟨rfl, hb⟩; have n0_ := Aside0.mk (Kd.R_below (by (with_reducible repeat (first | apply Kd.R_alloc | apply Kd.R_drewN | apply Kd.R_drew)); exact (Kd.R_mono (Kd.R_far (p := ⟨gb153, 1, none⟩) (Kd.R_far (p := ⟨gb153, 0, none⟩) (Kd.R_types HO_7.out BK153.out (by decide)) (fun _ hk => hk.2) (.string ((rd_T35 t149 x29_2).f0))) (fun _ hk => hk.2) (.string ((rd_T35 t149 x29_2).f1))) (fun _ h_ => h_.1))) hb); have n1_ := Aside0.mk (Kd.R_below (by (with_reducible repeat (first | apply Kd.R_alloc | apply Kd.R_drewN | apply Kd.R_drew)); exact (Kd.R_mono (Kd.R_far (p := ⟨gb153, 1, none⟩) (Kd.R_far (p := ⟨gb153, 0, none⟩) (Kd.R_mono HO_9.out (fun k_ hk => (⟨hk, hk.2⟩ : _ ∧ k_ ≠ gb153))) (fun _ hk => hk.2) (.string ((rd_T35 t149 x29_2).f0))) (fun _ hk => hk.2) (.string ((rd_T35 t149 x29_2).f1))) (fun _ h_ => h_.1))) hb); have n2_ := Aside0.mk (Kd.R_below (by (with_reducible repeat (first | apply Kd.R_alloc | apply Kd.R_drewN | apply Kd.R_drew)); exact (Kd.R_mono (Kd.R_far (p := ⟨gb153, 1, none⟩) (Kd.R_far (p := ⟨gb153, 0, none⟩) (Kd.R_mono HO_27.out (fun k_ hk => (⟨hk, hk.2⟩ : _ ∧ k_ ≠ gb153))) (fun _ hk => hk.2) (.string ((rd_T35 t149 x29_2).f0))) (fun _ hk => hk.2) (.string ((rd_T35 t149 x29_2).f1))) (fun _ h_ => h_.1))) hb); have n3_ := Aside0.mk (blk_below (g := gb153) (o := .cells #[.string ((rd_T35 t149 x29_2).f0), .string ((rd_T35 t149 x29_2).f1)] 35 (0, 0)) (by (with_reducible repeat (first | refine blk_drewN ?_ _ | refine blk_drew ?_ | refine blk_alloc ?_ _)); refine blk_put (cs := #[.string ((rd_T35 t149 x29_2).f0), .string (⟨#[]⟩ : ByteArray)]) ?_ 1 _ rfl; (with_reducible repeat (first | refine blk_drewN ?_ _ | refine blk_drew ?_ | refine blk_alloc ?_ _)); refine blk_put (cs := #[.string (⟨#[]⟩ : ByteArray), .string (⟨#[]⟩ : ByteArray)]) ?_ 0 _ rfl; (with_reducible repeat (first | refine blk_drewN ?_ _ | refine blk_drew ?_ | refine blk_alloc ?_ _)); exact BK153.out) hb); have n4_ := Aside0.mk (below_step (by repeat (first | (with_reducible first | exact HB.out | apply below_alloc | apply pw_below_drewN | apply below_drew1 | refine below_set ?_ GE153.out) | exact HB.out)) hb); clear HO_7; clear HO_9; clear HO_27; clear BK153; clear HB; have HO_7 := n0_; have HO_9 := n1_; have HO_27 := n2_; have BK153 := n3_; have HB := n4_; clear n0_ n1_ n2_ n3_ n4_; (try clear hb); (try clear hb2); (try clear hk); (try clear hi)))
          go_meet
          case rel => exact ⟨_, (t154), (by first | rfl | (simp; done) | (simp [*]; done)), H', ⟨by have := HJ4.out; have := HK2.out; first | omega | exact Nat.le_refl _⟩, ⟨by (with_reducible repeat (first | apply Kd.R_alloc | apply Kd.R_drewN | apply Kd.R_drew)); exact HO_7.out⟩, ⟨by (with_reducible repeat (first | apply Kd.R_alloc | apply Kd.R_drewN | apply Kd.R_drew)); exact HO_9.out⟩, ⟨by (with_reducible repeat (first | apply Kd.R_alloc | apply Kd.R_drewN | apply Kd.R_drew)); exact HO_27.out⟩, ⟨by (with_reducible repeat (first | refine blk_drewN ?_ _ | refine blk_drew ?_ | refine blk_alloc ?_ _)); exact BK153.out⟩, ⟨by repeat (first | (with_reducible first | exact HB.out | apply below_alloc | apply pw_below_drewN | apply below_drew1 | refine below_set ?_ GE153.out) | exact HB.out)⟩⟩
        case rest =>
         clear HC17
         try clear c1
         try clear p1
         try clear q1
         try clear hx1
         try clear c2
         try clear p2
         try clear c8
         try clear c12
         try clear c14
         try clear c14b0
         try clear c15
         try clear c15b0
         try clear p15
         try clear q15
         try clear hx15
         try clear c16
         try clear c16b0
         try clear c20
         try clear hcz19_0
         try clear hcz19_1
         try clear hfz19_0
         try clear hfz19_1
         try clear hx152_0
         try clear hx152_1
         try clear p152
         try clear p2
         try clear q152
         obtain ⟨kq, x12_16, rfl, HA, HJ16, HO_7, HO_9, HO_27, BK153, HB⟩ := hcut
         cases kq with
         | zero => exact absurd HA.out (by simp [cors_Seen.j2])
         | succ kj16 =>
          have H := HA.out
          clear HA
          simp only [cors_Seen.j2] at H
          have HC24 := Aside0.mk H
          clear H
          have hcz25_0 : wc.cell? ⟨gb153, 0, none⟩ = some (.string ((rd_T35 t149 x29_2).f0)) := (blk_cell BK153.out 0).trans rfl
          have hcz25_1 : wc.cell? ⟨gb153, 1, none⟩ = some (.string ((rd_T35 t149 x29_2).f1)) := (blk_cell BK153.out 1).trans rfl
          have hfz25_0 := blk_frozen BK153.out 0
          have hfz25_1 := blk_frozen BK153.out 1
          go_upto_if 41 with (fail)
          go_cut [41] (fun v41 wc => ∃ (kq : Nat) (x41_23 : Bool), v41 = .bool x41_23 ∧ Aside0 (cors_Seen.j3 kq t145 x8_4 x9_2 x12_16 t149 (t149.length : Int) x29_2 ((rd_T35 t149 x29_2).f0) x41_23 ((rd_T35 t149 x29_2).f0) ((rd_T35 t149 x29_2).f1) = some r) ∧ Aside0 (kq ≤ kj16) ∧ Aside0 (Kd.R Kd.string 9 wc w.heap.size (fun _ => True) v146 t145) ∧ Aside0 (Kd.R k35 35 wc w.heap.size (fun k_ => some k_ ≠ ((.slice (some ad152) t149.length co13) : Value).ownBlock ∧ k_ ≠ gb153) u9 x9_2) ∧ Aside0 (Kd.R k35 35 wc w.heap.size (fun k_ => some k_ ≠ (u9 : Value).ownBlock ∧ k_ ≠ gb153) (.slice (some ad152) t149.length co13) t149) ∧ Aside0 (wc.heap[gb153]? = some (.cells #[.string ((rd_T35 t149 x29_2).f0), .string ((rd_T35 t149 x29_2).f1)] 35 (0, 0))) ∧ Aside0 (Below w.heap.size w wc))
          case first =>
           have H := HC24.out
           clear HC24
           by_cases c26 : ((rd_T35 t149 x29_2).f0).toList = ([99, 97, 99, 104, 101, 45, 99, 111, 110, 116, 114, 111, 108] : List UInt8)
           ·rw [if_pos c26] at H
            have c26b0 : (((rd_T35 t149 x29_2).f0).toList == ([99, 97, 99, 104, 101, 45, 99, 111, 110, 116, 114, 111, 108] : List UInt8)) = true := beq_iff_eq.mpr c26
            have c26b1 : (((rd_T35 t149 x29_2).f0).toList != ([99, 97, 99, 104, 101, 45, 99, 111, 110, 116, 114, 111, 108] : List UInt8)) = false := bne_eq_false_iff_eq.mpr c26
            clear c26
            (first | rw [c26b0] | (simp only [i64_w, i32_w]; rw [c26b0]) | skip)
            have H' := Aside0.mk H
            clear H
            go_wp2
            go_meet
            case rel => exact ⟨_, ((((rd_T35 t149 x29_2).f0).toList == ([99, 97, 99, 104, 101, 45, 99, 111, 110, 116, 114, 111, 108] : List UInt8))), (by first | rfl | (simp; done) | (simp [*]; done)), H', ⟨by have := HJ4.out; have := HK2.out; have := HJ16.out; first | omega | exact Nat.le_refl _⟩, ⟨by (with_reducible repeat (first | apply Kd.R_alloc | apply Kd.R_drewN | apply Kd.R_drew)); exact HO_7.out⟩, ⟨by (with_reducible repeat (first | apply Kd.R_alloc | apply Kd.R_drewN | apply Kd.R_drew)); exact HO_9.out⟩, ⟨by (with_reducible repeat (first | apply Kd.R_alloc | apply Kd.R_drewN | apply Kd.R_drew)); exact HO_27.out⟩, ⟨by (with_reducible repeat (first | refine blk_drewN ?_ _ | refine blk_drew ?_ | refine blk_alloc ?_ _)); exact BK153.out⟩, ⟨by repeat (first | (with_reducible first | exact HB.out | apply below_alloc | apply pw_below_drewN | apply below_drew1 | refine below_set ?_ GE153.out) | exact HB.out)⟩⟩
           ·rw [if_neg c26] at H
            have c26b0 : (((rd_T35 t149 x29_2).f0).toList == ([99, 97, 99, 104, 101, 45, 99, 111, 110, 116, 114, 111, 108] : List UInt8)) = false := beq_eq_false_iff_ne.mpr c26
            have c26b1 : (((rd_T35 t149 x29_2).f0).toList != ([99, 97, 99, 104, 101, 45, 99, 111, 110, 116, 114, 111, 108] : List UInt8)) = true := bne_iff_ne.mpr c26
            (first | rw [c26b0] | (simp only [i64_w, i32_w]; rw [c26b0]) | skip)
            by_cases c27 : ((rd_T35 t149 x29_2).f0).toList = ([99, 111, 110, 116, 101, 110, 116, 45, 108, 97, 110, 103, 117, 97, 103, 101] : List UInt8)
            ·rw [if_pos c27] at H
             have c27b0 : (((rd_T35 t149 x29_2).f0).toList == ([99, 111, 110, 116, 101, 110, 116, 45, 108, 97, 110, 103, 117, 97, 103, 101] : List UInt8)) = true := beq_iff_eq.mpr c27
             have c27b1 : (((rd_T35 t149 x29_2).f0).toList != ([99, 111, 110, 116, 101, 110, 116, 45, 108, 97, 110, 103, 117, 97, 103, 101] : List UInt8)) = false := bne_eq_false_iff_eq.mpr c27
             clear c27
             have H' := Aside0.mk H
             clear H
             go_wp2
             go_meet
             case rel => exact ⟨_, ((((rd_T35 t149 x29_2).f0).toList == ([99, 111, 110, 116, 101, 110, 116, 45, 108, 97, 110, 103, 117, 97, 103, 101] : List UInt8))), (by first | rfl | (simp; done) | (simp [*]; done)), H', ⟨by have := HJ4.out; have := HK2.out; have := HJ16.out; first | omega | exact Nat.le_refl _⟩, ⟨by (with_reducible repeat (first | apply Kd.R_alloc | apply Kd.R_drewN | apply Kd.R_drew)); exact HO_7.out⟩, ⟨by (with_reducible repeat (first | apply Kd.R_alloc | apply Kd.R_drewN | apply Kd.R_drew)); exact HO_9.out⟩, ⟨by (with_reducible repeat (first | apply Kd.R_alloc | apply Kd.R_drewN | apply Kd.R_drew)); exact HO_27.out⟩, ⟨by (with_reducible repeat (first | refine blk_drewN ?_ _ | refine blk_drew ?_ | refine blk_alloc ?_ _)); exact BK153.out⟩, ⟨by repeat (first | (with_reducible first | exact HB.out | apply below_alloc | apply pw_below_drewN | apply below_drew1 | refine below_set ?_ GE153.out) | exact HB.out)⟩⟩
            ·rw [if_neg c27] at H
             have c27b0 : (((rd_T35 t149 x29_2).f0).toList == ([99, 111, 110, 116, 101, 110, 116, 45, 108, 97, 110, 103, 117, 97, 103, 101] : List UInt8)) = false := beq_eq_false_iff_ne.mpr c27
             have c27b1 : (((rd_T35 t149 x29_2).f0).toList != ([99, 111, 110, 116, 101, 110, 116, 45, 108, 97, 110, 103, 117, 97, 103, 101] : List UInt8)) = true := bne_iff_ne.mpr c27
             by_cases c28 : ((rd_T35 t149 x29_2).f0).toList = ([99, 111, 110, 116, 101, 110, 116, 45, 108, 101, 110, 103, 116, 104] : List UInt8)
             ·rw [if_pos c28] at H
              have c28b0 : (((rd_T35 t149 x29_2).f0).toList == ([99, 111, 110, 116, 101, 110, 116, 45, 108, 101, 110, 103, 116, 104] : List UInt8)) = true := beq_iff_eq.mpr c28
              have c28b1 : (((rd_T35 t149 x29_2).f0).toList != ([99, 111, 110, 116, 101, 110, 116, 45, 108, 101, 110, 103, 116, 104] : List UInt8)) = false := bne_eq_false_iff_eq.mpr c28
              clear c28
              have H' := Aside0.mk H
              clear H
              go_wp2
              go_meet
              case rel => exact ⟨_, ((((rd_T35 t149 x29_2).f0).toList == ([99, 111, 110, 116, 101, 110, 116, 45, 108, 101, 110, 103, 116, 104] : List UInt8))), (by first | rfl | (simp; done) | (simp [*]; done)), H', ⟨by have := HJ4.out; have := HK2.out; have := HJ16.out; first | omega | exact Nat.le_refl _⟩, ⟨by (with_reducible repeat (first | apply Kd.R_alloc | apply Kd.R_drewN | apply Kd.R_drew)); exact HO_7.out⟩, ⟨by (with_reducible repeat (first | apply Kd.R_alloc | apply Kd.R_drewN | apply Kd.R_drew)); exact HO_9.out⟩, ⟨by (with_reducible repeat (first | apply Kd.R_alloc | apply Kd.R_drewN | apply Kd.R_drew)); exact HO_27.out⟩, ⟨by (with_reducible repeat (first | refine blk_drewN ?_ _ | refine blk_drew ?_ | refine blk_alloc ?_ _)); exact BK153.out⟩, ⟨by repeat (first | (with_reducible first | exact HB.out | apply below_alloc | apply pw_below_drewN | apply below_drew1 | refine below_set ?_ GE153.out) | exact HB.out)⟩⟩
             ·rw [if_neg c28] at H
              have c28b0 : (((rd_T35 t149 x29_2).f0).toList == ([99, 111, 110, 116, 101, 110, 116, 45, 108, 101, 110, 103, 116, 104] : List UInt8)) = false := beq_eq_false_iff_ne.mpr c28
              have c28b1 : (((rd_T35 t149 x29_2).f0).toList != ([99, 111, 110, 116, 101, 110, 116, 45, 108, 101, 110, 103, 116, 104] : List UInt8)) = true := bne_iff_ne.mpr c28
              by_cases c29 : ((rd_T35 t149 x29_2).f0).toList = ([99, 111, 110, 116, 101, 110, 116, 45, 116, 121, 112, 101] : List UInt8)
              ·rw [if_pos c29] at H
               have c29b0 : (((rd_T35 t149 x29_2).f0).toList == ([99, 111, 110, 116, 101, 110, 116, 45, 116, 121, 112, 101] : List UInt8)) = true := beq_iff_eq.mpr c29
               have c29b1 : (((rd_T35 t149 x29_2).f0).toList != ([99, 111, 110, 116, 101, 110, 116, 45, 116, 121, 112, 101] : List UInt8)) = false := bne_eq_false_iff_eq.mpr c29
               clear c29
               have H' := Aside0.mk H
               clear H
               go_wp2
               go_meet
               case rel => exact ⟨_, ((((rd_T35 t149 x29_2).f0).toList == ([99, 111, 110, 116, 101, 110, 116, 45, 116, 121, 112, 101] : List UInt8))), (by first | rfl | (simp; done) | (simp [*]; done)), H', ⟨by have := HJ4.out; have := HK2.out; have := HJ16.out; first | omega | exact Nat.le_refl _⟩, ⟨by (with_reducible repeat (first | apply Kd.R_alloc | apply Kd.R_drewN | apply Kd.R_drew)); exact HO_7.out⟩, ⟨by (with_reducible repeat (first | apply Kd.R_alloc | apply Kd.R_drewN | apply Kd.R_drew)); exact HO_9.out⟩, ⟨by (with_reducible repeat (first | apply Kd.R_alloc | apply Kd.R_drewN | apply Kd.R_drew)); exact HO_27.out⟩, ⟨by (with_reducible repeat (first | refine blk_drewN ?_ _ | refine blk_drew ?_ | refine blk_alloc ?_ _)); exact BK153.out⟩, ⟨by repeat (first | (with_reducible first | exact HB.out | apply below_alloc | apply pw_below_drewN | apply below_drew1 | refine below_set ?_ GE153.out) | exact HB.out)⟩⟩
              ·rw [if_neg c29] at H
               have c29b0 : (((rd_T35 t149 x29_2).f0).toList == ([99, 111, 110, 116, 101, 110, 116, 45, 116, 121, 112, 101] : List UInt8)) = false := beq_eq_false_iff_ne.mpr c29
               have c29b1 : (((rd_T35 t149 x29_2).f0).toList != ([99, 111, 110, 116, 101, 110, 116, 45, 116, 121, 112, 101] : List UInt8)) = true := bne_iff_ne.mpr c29
               by_cases c30 : ((rd_T35 t149 x29_2).f0).toList = ([101, 120, 112, 105, 114, 101, 115] : List UInt8)
               ·rw [if_pos c30] at H
                have c30b0 : (((rd_T35 t149 x29_2).f0).toList == ([101, 120, 112, 105, 114, 101, 115] : List UInt8)) = true := beq_iff_eq.mpr c30
                have c30b1 : (((rd_T35 t149 x29_2).f0).toList != ([101, 120, 112, 105, 114, 101, 115] : List UInt8)) = false := bne_eq_false_iff_eq.mpr c30
                clear c30
                have H' := Aside0.mk H
                clear H
                go_wp2
                go_meet
                case rel => exact ⟨_, ((((rd_T35 t149 x29_2).f0).toList == ([101, 120, 112, 105, 114, 101, 115] : List UInt8))), (by first | rfl | (simp; done) | (simp [*]; done)), H', ⟨by have := HJ4.out; have := HK2.out; have := HJ16.out; first | omega | exact Nat.le_refl _⟩, ⟨by (with_reducible repeat (first | apply Kd.R_alloc | apply Kd.R_drewN | apply Kd.R_drew)); exact HO_7.out⟩, ⟨by (with_reducible repeat (first | apply Kd.R_alloc | apply Kd.R_drewN | apply Kd.R_drew)); exact HO_9.out⟩, ⟨by (with_reducible repeat (first | apply Kd.R_alloc | apply Kd.R_drewN | apply Kd.R_drew)); exact HO_27.out⟩, ⟨by (with_reducible repeat (first | refine blk_drewN ?_ _ | refine blk_drew ?_ | refine blk_alloc ?_ _)); exact BK153.out⟩, ⟨by repeat (first | (with_reducible first | exact HB.out | apply below_alloc | apply pw_below_drewN | apply below_drew1 | refine below_set ?_ GE153.out) | exact HB.out)⟩⟩
               ·rw [if_neg c30] at H
                have c30b0 : (((rd_T35 t149 x29_2).f0).toList == ([101, 120, 112, 105, 114, 101, 115] : List UInt8)) = false := beq_eq_false_iff_ne.mpr c30
                have c30b1 : (((rd_T35 t149 x29_2).f0).toList != ([101, 120, 112, 105, 114, 101, 115] : List UInt8)) = true := bne_iff_ne.mpr c30
                by_cases c31 : ((rd_T35 t149 x29_2).f0).toList = ([108, 97, 115, 116, 45, 109, 111, 100, 105, 102, 105, 101, 100] : List UInt8)
                ·rw [if_pos c31] at H
                 have c31b0 : (((rd_T35 t149 x29_2).f0).toList == ([108, 97, 115, 116, 45, 109, 111, 100, 105, 102, 105, 101, 100] : List UInt8)) = true := beq_iff_eq.mpr c31
                 have c31b1 : (((rd_T35 t149 x29_2).f0).toList != ([108, 97, 115, 116, 45, 109, 111, 100, 105, 102, 105, 101, 100] : List UInt8)) = false := bne_eq_false_iff_eq.mpr c31
                 clear c31
                 have H' := Aside0.mk H
                 clear H
                 go_wp2
                 go_meet
                 case rel => exact ⟨_, ((((rd_T35 t149 x29_2).f0).toList == ([108, 97, 115, 116, 45, 109, 111, 100, 105, 102, 105, 101, 100] : List UInt8))), (by first | rfl | (simp; done) | (simp [*]; done)), H', ⟨by have := HJ4.out; have := HK2.out; have := HJ16.out; first | omega | exact Nat.le_refl _⟩, ⟨by (with_reducible repeat (first | apply Kd.R_alloc | apply Kd.R_drewN | apply Kd.R_drew)); exact HO_7.out⟩, ⟨by (with_reducible repeat (first | apply Kd.R_alloc | apply Kd.R_drewN | apply Kd.R_drew)); exact HO_9.out⟩, ⟨by (with_reducible repeat (first | apply Kd.R_alloc | apply Kd.R_drewN | apply Kd.R_drew)); exact HO_27.out⟩, ⟨by (with_reducible repeat (first | refine blk_drewN ?_ _ | refine blk_drew ?_ | refine blk_alloc ?_ _)); exact BK153.out⟩, ⟨by repeat (first | (with_reducible first | exact HB.out | apply below_alloc | apply pw_below_drewN | apply below_drew1 | refine below_set ?_ GE153.out) | exact HB.out)⟩⟩
                ·rw [if_neg c31] at H
                 have c31b0 : (((rd_T35 t149 x29_2).f0).toList == ([108, 97, 115, 116, 45, 109, 111, 100, 105, 102, 105, 101, 100] : List UInt8)) = false := beq_eq_false_iff_ne.mpr c31
                 have c31b1 : (((rd_T35 t149 x29_2).f0).toList != ([108, 97, 115, 116, 45, 109, 111, 100, 105, 102, 105, 101, 100] : List UInt8)) = true := bne_iff_ne.mpr c31
                 have H' := Aside0.mk H
                 clear H
                 go_wp2
                 go_meet
                 case rel => exact ⟨_, ((((rd_T35 t149 x29_2).f0).toList == ([112, 114, 97, 103, 109, 97] : List UInt8))), (by first | rfl | (simp; done) | (simp [*]; done)), H', ⟨by have := HJ4.out; have := HK2.out; have := HJ16.out; first | omega | exact Nat.le_refl _⟩, ⟨by (with_reducible repeat (first | apply Kd.R_alloc | apply Kd.R_drewN | apply Kd.R_drew)); exact HO_7.out⟩, ⟨by (with_reducible repeat (first | apply Kd.R_alloc | apply Kd.R_drewN | apply Kd.R_drew)); exact HO_9.out⟩, ⟨by (with_reducible repeat (first | apply Kd.R_alloc | apply Kd.R_drewN | apply Kd.R_drew)); exact HO_27.out⟩, ⟨by (with_reducible repeat (first | refine blk_drewN ?_ _ | refine blk_drew ?_ | refine blk_alloc ?_ _)); exact BK153.out⟩, ⟨by repeat (first | (with_reducible first | exact HB.out | apply below_alloc | apply pw_below_drewN | apply below_drew1 | refine below_set ?_ GE153.out) | exact HB.out)⟩⟩
          case rest =>
           clear HC24
           try clear c1
           try clear p1
           try clear q1
           try clear hx1
           try clear c2
           try clear p2
           try clear c3
           try clear c8
           try clear c12
           try clear c14
           try clear c14b0
           try clear c15
           try clear c15b0
           try clear p15
           try clear q15
           try clear hx15
           try clear c16
           try clear c16b0
           try clear c20
           try clear c25
           try clear c26
           try clear c26b0
           try clear c26b1
           try clear c27
           try clear c27b0
           try clear c27b1
           try clear c28
           try clear c28b0
           try clear c28b1
           try clear c29
           try clear c29b0
           try clear c29b1
           try clear c30
           try clear c30b0
           try clear c30b1
           try clear c31
           try clear c31b0
           try clear c31b1
           try clear hcz19_0
           try clear hcz19_1
           try clear hcz25_0
           try clear hcz25_1
           try clear hfz19_0
           try clear hfz19_1
           try clear hfz25_0
           try clear hfz25_1
           try clear hx152_0
           try clear hx152_1
           try clear p1
           try clear p15
           try clear p152
           try clear p2
           try clear q1
           try clear q15
           try clear q152
           obtain ⟨kq, x41_23, rfl, HA, HJ23, HO_7, HO_9, HO_27, BK153, HB⟩ := hcut
           cases kq with
           | zero => exact absurd HA.out (by simp [cors_Seen.j3])
           | succ kj23 =>
            have H := HA.out
            clear HA
            simp only [cors_Seen.j3] at H
            by_cases c32 : x41_23 = true
            ·subst c32
             have H1 : (if x9_2.length < 4398046511104 then (cors_Seen.l0 kj23 t145 x8_4 (x9_2 ++ [(⟨((rd_T35 t149 x29_2).f0), ((rd_T35 t149 x29_2).f1)⟩ : S35)]) t149 (t149.length : Int) (wrap64 (x29_2 + 1))) else (none)) = some r := by rw [if_pos rfl] at H; exact H
             clear H
             have H := H1
             clear H1
             by_cases c33 : x9_2.length < 4398046511104
             ·rw [if_pos c33] at H
              have LMc33 := Aside0.mk c33
              clear c33
              obtain ⟨y155, hy155⟩ : ∃ y_ : List (S35), y_ = (x9_2 ++ [(⟨((rd_T35 t149 x29_2).f0), ((rd_T35 t149 x29_2).f1)⟩ : S35)]) := ⟨_, rfl⟩
              replace H : (cors_Seen.l0 kj23 t145 x8_4 y155 t149 (t149.length : Int) (wrap64 (x29_2 + 1))) = some r := by first | (rw [hy155]; with_reducible exact H) | (have H2_ := (Option.bind_some _ _).symm.trans H; rw [hy155]; with_reducible exact H2_) | (have H2_ := (Option.bind_some _ _).symm.trans H; with_reducible exact H2_) | with_reducible exact H | (rw [hy155]; exact H) | exact H
              have Ny155 := Aside0.mk hy155
              clear hy155
              have H' := Aside0.mk H
              clear H
              have hcz34_0 : wc.cell? ⟨gb153, 0, none⟩ = some (.string ((rd_T35 t149 x29_2).f0)) := (blk_cell BK153.out 0).trans rfl
              have hcz34_1 : wc.cell? ⟨gb153, 1, none⟩ = some (.string ((rd_T35 t149 x29_2).f1)) := (blk_cell BK153.out 1).trans rfl
              have hfz34_0 := blk_frozen BK153.out 0
              have hfz34_1 := blk_frozen BK153.out 1
              go_wp2_with (first | ((with_reducible refine gate_builtin (b := .append) (xs := #[.tmp 53, .tmp 55]) rfl ?_); at_builtin; refine Kd.R_append k35 (w0 := w) w.heap.size rfl (.tmp 53) (.tmp 55) 22 35 (.agg #[(.string ⟨#[]⟩), (.string ⟨#[]⟩)]) 32 rfl Tryd.underlying22 info35 rfl (by decide) (by omega) u9 x9_2 (⟨((rd_T35 t149 x29_2).f0), ((rd_T35 t149 x29_2).f1)⟩ : S35) [.string ((rd_T35 t149 x29_2).f0), .string ((rd_T35 t149 x29_2).f1)] (fun k_ => some k_ ≠ (.slice (some ad152) t149.length co13 : Value).ownBlock ∧ k_ ≠ gb153) (fun _ => False) rfl rfl ?aP (fun _ hk => hk.elim) ?aF ?aO ?aB ?aS ?aL ?_; (case aP => exact k35_mkM _ _ _ (⟨((rd_T35 t149 x29_2).f0), ((rd_T35 t149 x29_2).f1)⟩ : S35)); (case aB => exact (by repeat (first | (with_reducible first | exact HB.out | apply below_alloc | apply pw_below_drewN | apply below_drew1 | refine below_set ?_ GE153.out) | exact HB.out))); (case aF => exact (fun k_ hk => ⟨Kd.fresh' (Kd.R_lt (by (with_reducible repeat (first | apply Kd.R_alloc | apply Kd.R_drewN | apply Kd.R_drew)); exact HO_27.out)) k_ hk, Kd.freshB (g := gb153) (o := .cells #[.string ((rd_T35 t149 x29_2).f0), .string ((rd_T35 t149 x29_2).f1)] 35 (0, 0)) (by (with_reducible repeat (first | refine blk_drewN ?_ _ | refine blk_drew ?_ | refine blk_alloc ?_ _)); exact BK153.out) k_ hk⟩)); (case aO => exact (by (with_reducible repeat (first | apply Kd.R_alloc | apply Kd.R_drewN | apply Kd.R_drew)); exact HO_9.out)); (case aS => exact (below_size (by repeat (first | (with_reducible first | exact HB.out | apply below_alloc | apply pw_below_drewN | apply below_drew1 | refine below_set ?_ GE153.out) | exact HB.out)))); (case aL => have := LMc33.out; omega); intro v156 w35 ho hb hg hat; rw [← Ny155.out] at ho; have n0_ := Aside0.mk (Kd.R_over' (by (with_reducible repeat (first | apply Kd.R_alloc | apply Kd.R_drewN | apply Kd.R_drew)); exact HO_7.out) (Kd.R_typed (by (with_reducible repeat (first | apply Kd.R_alloc | apply Kd.R_drewN | apply Kd.R_drew)); exact HO_9.out)) (by decide) hg); have n1_ := Aside0.mk (Kd.R_after (ok := (fun k_ => k_ ≠ gb153)) (by (with_reducible repeat (first | apply Kd.R_alloc | apply Kd.R_drewN | apply Kd.R_drew)); exact Kd.R_mono HO_27.out (fun _ hk => ⟨hk.2, hk.1⟩)) hg hat); have n2_ := Aside0.mk (blk_grown (g := gb153) (o := .cells #[.string ((rd_T35 t149 x29_2).f0), .string ((rd_T35 t149 x29_2).f1)] 35 (0, 0)) (by (with_reducible repeat (first | refine blk_drewN ?_ _ | refine blk_drew ?_ | refine blk_alloc ?_ _)); exact BK153.out) hg (Kd.R_away HO_9.out (fun _ hk => hk.2))); have n3_ := Aside0.mk (hb); have n4_ := Aside0.mk (ho); clear HO_7; clear HO_27; clear BK153; clear HB; clear HO_9; have HO_7 := n0_; have HO_27 := n1_; have BK153 := n2_; have HB := n3_; have HO157 := n4_; clear n0_ n1_ n2_ n3_ n4_; clear ho hb hg hat))
              go_roundg kj23
              case measure => have := HJ4.out; have := HK2.out; have := HJ16.out; have := HJ23.out; omega
              case rel => exact ⟨(y155), (wrap64 (x29_2 + 1)), (by first | rfl | (simp; done) | (simp [*]; done)), H', ⟨by have := HJ4.out; have := HK2.out; have := HJ16.out; have := HJ23.out; omega⟩, ⟨by (with_reducible repeat (first | apply Kd.R_alloc | apply Kd.R_drewN | apply Kd.R_drew)); exact HO_7.out⟩, ⟨by (with_reducible repeat (first | apply Kd.R_alloc | apply Kd.R_drewN | apply Kd.R_drew)); exact Kd.R_mono HO157.out (fun _ hk => hk.1)⟩, ⟨by (with_reducible repeat (first | apply Kd.R_alloc | apply Kd.R_drewN | apply Kd.R_drew)); exact Kd.R_mono HO_27.out (fun _ hk => hk.2)⟩, ⟨by repeat (first | (with_reducible first | exact HB.out | apply below_alloc | apply pw_below_drewN | apply below_drew1 | refine below_set ?_ GE153.out) | exact HB.out)⟩⟩
             ·rw [if_neg c33] at H
              exact absurd H (by simp)
            ·replace c32 := Bool.eq_false_iff.mpr c32
             subst c32
             have H1 : (if ((rd_T35 t149 x29_2).f0).toList = ([115, 101, 116, 45, 99, 111, 111, 107, 105, 101] : List UInt8) then (cors_Seen.j4 kj23 t145 x8_4 x9_2 x12_16 t149 (t149.length : Int) x29_2 (((rd_T35 t149 x29_2).f0).toList == ([115, 101, 116, 45, 99, 111, 111, 107, 105, 101] : List UInt8)) ((rd_T35 t149 x29_2).f0) ((rd_T35 t149 x29_2).f1)) else (cors_Seen.j4 kj23 t145 x8_4 x9_2 x12_16 t149 (t149.length : Int) x29_2 (((rd_T35 t149 x29_2).f0).toList == ([115, 101, 116, 45, 99, 111, 111, 107, 105, 101, 50] : List UInt8)) ((rd_T35 t149 x29_2).f0) ((rd_T35 t149 x29_2).f1))) = some r := by rw [if_neg (show ¬ (false = true) by decide)] at H; exact H
             clear H
             have H := H1
             clear H1
             have HC36 := Aside0.mk H
             clear H
             go_upto_if 49 with (fail)
             go_cut [49] (fun v49 wc => ∃ (kq : Nat) (x49_35 : Bool), v49 = .bool x49_35 ∧ Aside0 (cors_Seen.j4 kq t145 x8_4 x9_2 x12_16 t149 (t149.length : Int) x29_2 x49_35 ((rd_T35 t149 x29_2).f0) ((rd_T35 t149 x29_2).f1) = some r) ∧ Aside0 (kq ≤ kj23) ∧ Aside0 (Kd.R Kd.string 9 wc w.heap.size (fun _ => True) v146 t145) ∧ Aside0 (Kd.R k35 35 wc w.heap.size (fun k_ => some k_ ≠ ((.slice (some ad152) t149.length co13) : Value).ownBlock ∧ k_ ≠ gb153) u9 x9_2) ∧ Aside0 (Kd.R k35 35 wc w.heap.size (fun k_ => some k_ ≠ (u9 : Value).ownBlock ∧ k_ ≠ gb153) (.slice (some ad152) t149.length co13) t149) ∧ Aside0 (wc.heap[gb153]? = some (.cells #[.string ((rd_T35 t149 x29_2).f0), .string ((rd_T35 t149 x29_2).f1)] 35 (0, 0))) ∧ Aside0 (Below w.heap.size w wc))
             case first =>
              have H := HC36.out
              clear HC36
              by_cases c37 : ((rd_T35 t149 x29_2).f0).toList = ([115, 101, 116, 45, 99, 111, 111, 107, 105, 101] : List UInt8)
              ·rw [if_pos c37] at H
               have c37b0 : (((rd_T35 t149 x29_2).f0).toList == ([115, 101, 116, 45, 99, 111, 111, 107, 105, 101] : List UInt8)) = true := beq_iff_eq.mpr c37
               have c37b1 : (((rd_T35 t149 x29_2).f0).toList != ([115, 101, 116, 45, 99, 111, 111, 107, 105, 101] : List UInt8)) = false := bne_eq_false_iff_eq.mpr c37
               clear c37
               (first | rw [c37b0] | (simp only [i64_w, i32_w]; rw [c37b0]) | skip)
               have H' := Aside0.mk H
               clear H
               go_wp2
               go_meet
               case rel => exact ⟨_, ((((rd_T35 t149 x29_2).f0).toList == ([115, 101, 116, 45, 99, 111, 111, 107, 105, 101] : List UInt8))), (by first | rfl | (simp; done) | (simp [*]; done)), H', ⟨by have := HJ4.out; have := HK2.out; have := HJ16.out; have := HJ23.out; first | omega | exact Nat.le_refl _⟩, ⟨by (with_reducible repeat (first | apply Kd.R_alloc | apply Kd.R_drewN | apply Kd.R_drew)); exact HO_7.out⟩, ⟨by (with_reducible repeat (first | apply Kd.R_alloc | apply Kd.R_drewN | apply Kd.R_drew)); exact HO_9.out⟩, ⟨by (with_reducible repeat (first | apply Kd.R_alloc | apply Kd.R_drewN | apply Kd.R_drew)); exact HO_27.out⟩, ⟨by (with_reducible repeat (first | refine blk_drewN ?_ _ | refine blk_drew ?_ | refine blk_alloc ?_ _)); exact BK153.out⟩, ⟨by repeat (first | (with_reducible first | exact HB.out | apply below_alloc | apply pw_below_drewN | apply below_drew1 | refine below_set ?_ GE153.out) | exact HB.out)⟩⟩
              ·rw [if_neg c37] at H
               have c37b0 : (((rd_T35 t149 x29_2).f0).toList == ([115, 101, 116, 45, 99, 111, 111, 107, 105, 101] : List UInt8)) = false := beq_eq_false_iff_ne.mpr c37
               have c37b1 : (((rd_T35 t149 x29_2).f0).toList != ([115, 101, 116, 45, 99, 111, 111, 107, 105, 101] : List UInt8)) = true := bne_iff_ne.mpr c37
               (first | rw [c37b0] | (simp only [i64_w, i32_w]; rw [c37b0]) | skip)
               have H' := Aside0.mk H
               clear H
               go_wp2
               go_meet
               case rel => exact ⟨_, ((((rd_T35 t149 x29_2).f0).toList == ([115, 101, 116, 45, 99, 111, 111, 107, 105, 101, 50] : List UInt8))), (by first | rfl | (simp; done) | (simp [*]; done)), H', ⟨by have := HJ4.out; have := HK2.out; have := HJ16.out; have := HJ23.out; first | omega | exact Nat.le_refl _⟩, ⟨by (with_reducible repeat (first | apply Kd.R_alloc | apply Kd.R_drewN | apply Kd.R_drew)); exact HO_7.out⟩, ⟨by (with_reducible repeat (first | apply Kd.R_alloc | apply Kd.R_drewN | apply Kd.R_drew)); exact HO_9.out⟩, ⟨by (with_reducible repeat (first | apply Kd.R_alloc | apply Kd.R_drewN | apply Kd.R_drew)); exact HO_27.out⟩, ⟨by (with_reducible repeat (first | refine blk_drewN ?_ _ | refine blk_drew ?_ | refine blk_alloc ?_ _)); exact BK153.out⟩, ⟨by repeat (first | (with_reducible first | exact HB.out | apply below_alloc | apply pw_below_drewN | apply below_drew1 | refine below_set ?_ GE153.out) | exact HB.out)⟩⟩
             case rest =>
              clear HC36
              try clear c1
              try clear p1
              try clear q1
              try clear hx1
              try clear c2
              try clear p2
              try clear c3
              try clear p6
              try clear c8
              try clear c12
              try clear c14
              try clear c14b0
              try clear c15
              try clear c15b0
              try clear p15
              try clear q15
              try clear hx15
              try clear c16
              try clear c16b0
              try clear c20
              try clear c25
              try clear c26
              try clear c26b0
              try clear c26b1
              try clear c27
              try clear c27b0
              try clear c27b1
              try clear c28
              try clear c28b0
              try clear c28b1
              try clear c29
              try clear c29b0
              try clear c29b1
              try clear c30
              try clear c30b0
              try clear c30b1
              try clear c31
              try clear c31b0
              try clear c31b1
              try clear c32
              try clear c33
              try clear c37
              try clear c37b0
              try clear c37b1
              try clear hcz19_0
              try clear hcz19_1
              try clear hcz25_0
              try clear hcz25_1
              try clear hcz34_0
              try clear hcz34_1
              try clear hfz19_0
              try clear hfz19_1
              try clear hfz25_0
              try clear hfz25_1
              try clear hfz34_0
              try clear hfz34_1
              try clear hx152_0
              try clear hx152_1
              try clear p1
              try clear p15
              try clear p152
              try clear p2
              try clear q1
              try clear q15
              try clear q152
              obtain ⟨kq, x49_35, rfl, HA, HJ35, HO_7, HO_9, HO_27, BK153, HB⟩ := hcut
              cases kq with
              | zero => exact absurd HA.out (by simp [cors_Seen.j4])
              | succ kj35 =>
               have H := HA.out
               clear HA
               simp only [cors_Seen.j4] at H
               by_cases c38 : x49_35 = true
               ·subst c38
                have H1 : (cors_Seen.l0 kj35 t145 x8_4 x9_2 t149 (t149.length : Int) (wrap64 (x29_2 + 1))) = some r := by rw [if_pos rfl] at H; exact H
                clear H
                have H := H1
                clear H1
                have H' := Aside0.mk H
                clear H
                go_wp2
                go_roundg kj35
                case measure => have := HJ4.out; have := HK2.out; have := HJ16.out; have := HJ23.out; have := HJ35.out; omega
                case rel => exact ⟨(x9_2), (wrap64 (x29_2 + 1)), (by first | rfl | (simp; done) | (simp [*]; done)), H', ⟨by have := HJ4.out; have := HK2.out; have := HJ16.out; have := HJ23.out; have := HJ35.out; omega⟩, ⟨by (with_reducible repeat (first | apply Kd.R_alloc | apply Kd.R_drewN | apply Kd.R_drew)); exact HO_7.out⟩, ⟨by (with_reducible repeat (first | apply Kd.R_alloc | apply Kd.R_drewN | apply Kd.R_drew)); exact Kd.R_mono HO_9.out (fun _ hk => hk.1)⟩, ⟨by (with_reducible repeat (first | apply Kd.R_alloc | apply Kd.R_drewN | apply Kd.R_drew)); exact Kd.R_mono HO_27.out (fun _ hk => hk.1)⟩, ⟨by repeat (first | (with_reducible first | exact HB.out | apply below_alloc | apply pw_below_drewN | apply below_drew1 | refine below_set ?_ GE153.out) | exact HB.out)⟩⟩
               ·replace c38 := Bool.eq_false_iff.mpr c38
                subst c38
                have H1 : (if x12_16 = true then (if x9_2.length < 4398046511104 then (cors_Seen.l0 kj35 t145 x8_4 (x9_2 ++ [(⟨((rd_T35 t149 x29_2).f0), ((rd_T35 t149 x29_2).f1)⟩ : S35)]) t149 (t149.length : Int) (wrap64 (x29_2 + 1))) else (none)) else (cors_Seen.l0 kj35 t145 x8_4 x9_2 t149 (t149.length : Int) (wrap64 (x29_2 + 1)))) = some r := by rw [if_neg (show ¬ (false = true) by decide)] at H; exact H
                clear H
                have H := H1
                clear H1
                by_cases c39 : x12_16 = true
                ·subst c39
                 have H1 : (if x9_2.length < 4398046511104 then (cors_Seen.l0 kj35 t145 x8_4 (x9_2 ++ [(⟨((rd_T35 t149 x29_2).f0), ((rd_T35 t149 x29_2).f1)⟩ : S35)]) t149 (t149.length : Int) (wrap64 (x29_2 + 1))) else (none)) = some r := by rw [if_pos rfl] at H; exact H
                 clear H
                 have H := H1
                 clear H1
                 by_cases c40 : x9_2.length < 4398046511104
                 ·rw [if_pos c40] at H
                  have LMc40 := Aside0.mk c40
                  clear c40
                  obtain ⟨y158, hy158⟩ : ∃ y_ : List (S35), y_ = (x9_2 ++ [(⟨((rd_T35 t149 x29_2).f0), ((rd_T35 t149 x29_2).f1)⟩ : S35)]) := ⟨_, rfl⟩
                  replace H : (cors_Seen.l0 kj35 t145 x8_4 y158 t149 (t149.length : Int) (wrap64 (x29_2 + 1))) = some r := by first | (rw [hy158]; with_reducible exact H) | (have H2_ := (Option.bind_some _ _).symm.trans H; rw [hy158]; with_reducible exact H2_) | (have H2_ := (Option.bind_some _ _).symm.trans H; with_reducible exact H2_) | with_reducible exact H | (rw [hy158]; exact H) | exact H
                  have Ny158 := Aside0.mk hy158
                  clear hy158
                  have H' := Aside0.mk H
                  clear H
                  have hcz41_0 : wc.cell? ⟨gb153, 0, none⟩ = some (.string ((rd_T35 t149 x29_2).f0)) := (blk_cell BK153.out 0).trans rfl
                  have hcz41_1 : wc.cell? ⟨gb153, 1, none⟩ = some (.string ((rd_T35 t149 x29_2).f1)) := (blk_cell BK153.out 1).trans rfl
                  have hfz41_0 := blk_frozen BK153.out 0
                  have hfz41_1 := blk_frozen BK153.out 1
                  go_wp2_with (first | ((with_reducible refine gate_builtin (b := .append) (xs := #[.tmp 53, .tmp 55]) rfl ?_); at_builtin; refine Kd.R_append k35 (w0 := w) w.heap.size rfl (.tmp 53) (.tmp 55) 22 35 (.agg #[(.string ⟨#[]⟩), (.string ⟨#[]⟩)]) 32 rfl Tryd.underlying22 info35 rfl (by decide) (by omega) u9 x9_2 (⟨((rd_T35 t149 x29_2).f0), ((rd_T35 t149 x29_2).f1)⟩ : S35) [.string ((rd_T35 t149 x29_2).f0), .string ((rd_T35 t149 x29_2).f1)] (fun k_ => some k_ ≠ (.slice (some ad152) t149.length co13 : Value).ownBlock ∧ k_ ≠ gb153) (fun _ => False) rfl rfl ?aP (fun _ hk => hk.elim) ?aF ?aO ?aB ?aS ?aL ?_; (case aP => exact k35_mkM _ _ _ (⟨((rd_T35 t149 x29_2).f0), ((rd_T35 t149 x29_2).f1)⟩ : S35)); (case aB => exact (by repeat (first | (with_reducible first | exact HB.out | apply below_alloc | apply pw_below_drewN | apply below_drew1 | refine below_set ?_ GE153.out) | exact HB.out))); (case aF => exact (fun k_ hk => ⟨Kd.fresh' (Kd.R_lt (by (with_reducible repeat (first | apply Kd.R_alloc | apply Kd.R_drewN | apply Kd.R_drew)); exact HO_27.out)) k_ hk, Kd.freshB (g := gb153) (o := .cells #[.string ((rd_T35 t149 x29_2).f0), .string ((rd_T35 t149 x29_2).f1)] 35 (0, 0)) (by (with_reducible repeat (first | refine blk_drewN ?_ _ | refine blk_drew ?_ | refine blk_alloc ?_ _)); exact BK153.out) k_ hk⟩)); (case aO => exact (by (with_reducible repeat (first | apply Kd.R_alloc | apply Kd.R_drewN | apply Kd.R_drew)); exact HO_9.out)); (case aS => exact (below_size (by repeat (first | (with_reducible first | exact HB.out | apply below_alloc | apply pw_below_drewN | apply below_drew1 | refine below_set ?_ GE153.out) | exact HB.out)))); (case aL => have := LMc40.out; omega); intro v159 w42 ho hb hg hat; rw [← Ny158.out] at ho; have n0_ := Aside0.mk (Kd.R_over' (by (with_reducible repeat (first | apply Kd.R_alloc | apply Kd.R_drewN | apply Kd.R_drew)); exact HO_7.out) (Kd.R_typed (by (with_reducible repeat (first | apply Kd.R_alloc | apply Kd.R_drewN | apply Kd.R_drew)); exact HO_9.out)) (by decide) hg); have n1_ := Aside0.mk (Kd.R_after (ok := (fun k_ => k_ ≠ gb153)) (by (with_reducible repeat (first | apply Kd.R_alloc | apply Kd.R_drewN | apply Kd.R_drew)); exact Kd.R_mono HO_27.out (fun _ hk => ⟨hk.2, hk.1⟩)) hg hat); have n2_ := Aside0.mk (blk_grown (g := gb153) (o := .cells #[.string ((rd_T35 t149 x29_2).f0), .string ((rd_T35 t149 x29_2).f1)] 35 (0, 0)) (by (with_reducible repeat (first | refine blk_drewN ?_ _ | refine blk_drew ?_ | refine blk_alloc ?_ _)); exact BK153.out) hg (Kd.R_away HO_9.out (fun _ hk => hk.2))); have n3_ := Aside0.mk (hb); have n4_ := Aside0.mk (ho); clear HO_7; clear HO_27; clear BK153; clear HB; clear HO_9; have HO_7 := n0_; have HO_27 := n1_; have BK153 := n2_; have HB := n3_; have HO160 := n4_; clear n0_ n1_ n2_ n3_ n4_; clear ho hb hg hat))
                  go_roundg kj35
                  case measure => have := HJ4.out; have := HK2.out; have := HJ16.out; have := HJ23.out; have := HJ35.out; omega
                  case rel => exact ⟨(y158), (wrap64 (x29_2 + 1)), (by first | rfl | (simp; done) | (simp [*]; done)), H', ⟨by have := HJ4.out; have := HK2.out; have := HJ16.out; have := HJ23.out; have := HJ35.out; omega⟩, ⟨by (with_reducible repeat (first | apply Kd.R_alloc | apply Kd.R_drewN | apply Kd.R_drew)); exact HO_7.out⟩, ⟨by (with_reducible repeat (first | apply Kd.R_alloc | apply Kd.R_drewN | apply Kd.R_drew)); exact Kd.R_mono HO160.out (fun _ hk => hk.1)⟩, ⟨by (with_reducible repeat (first | apply Kd.R_alloc | apply Kd.R_drewN | apply Kd.R_drew)); exact Kd.R_mono HO_27.out (fun _ hk => hk.2)⟩, ⟨by repeat (first | (with_reducible first | exact HB.out | apply below_alloc | apply pw_below_drewN | apply below_drew1 | refine below_set ?_ GE153.out) | exact HB.out)⟩⟩
                 ·rw [if_neg c40] at H
                  exact absurd H (by simp)
                ·replace c39 := Bool.eq_false_iff.mpr c39
                 subst c39
                 have H1 : (cors_Seen.l0 kj35 t145 x8_4 x9_2 t149 (t149.length : Int) (wrap64 (x29_2 + 1))) = some r := by rw [if_neg (show ¬ (false = true) by decide)] at H; exact H
                 clear H
                 have H := H1
                 clear H1
                 have H' := Aside0.mk H
                 clear H
                 go_wp2
                 go_roundg kj35
                 case measure => have := HJ4.out; have := HK2.out; have := HJ16.out; have := HJ23.out; have := HJ35.out; omega
                 case rel => exact ⟨(x9_2), (wrap64 (x29_2 + 1)), (by first | rfl | (simp; done) | (simp [*]; done)), H', ⟨by have := HJ4.out; have := HK2.out; have := HJ16.out; have := HJ23.out; have := HJ35.out; omega⟩, ⟨by (with_reducible repeat (first | apply Kd.R_alloc | apply Kd.R_drewN | apply Kd.R_drew)); exact HO_7.out⟩, ⟨by (with_reducible repeat (first | apply Kd.R_alloc | apply Kd.R_drewN | apply Kd.R_drew)); exact Kd.R_mono HO_9.out (fun _ hk => hk.1)⟩, ⟨by (with_reducible repeat (first | apply Kd.R_alloc | apply Kd.R_drewN | apply Kd.R_drew)); exact Kd.R_mono HO_27.out (fun _ hk => hk.1)⟩, ⟨by repeat (first | (with_reducible first | exact HB.out | apply below_alloc | apply pw_below_drewN | apply below_drew1 | refine below_set ?_ GE153.out) | exact HB.out)⟩⟩
       ·rw [if_neg c16] at H
        exact absurd H (by simp)
      ·rw [if_neg c15] at H
       exact absurd H (by simp)
     ·rw [if_neg c14] at H
      have c14b0 : decide (x29_2 < (t149.length : Int)) = false := decide_eq_false c14
      clear c14
      obtain rfl := Option.some.inj H
      go_wp2
      go_ret
      exact ⟨_, by first | rfl | (simp [errW_none, errW_some] <;> rfl) | (simp [*, errW_none, errW_some] <;> rfl), by (with_reducible repeat (first | apply Kd.R_alloc | apply Kd.R_drewN | apply Kd.R_drew)); exact Kd.R_mono HO_9.out (fun _ hk => trivial), by repeat (first | (with_reducible first | exact HB.out | apply below_alloc | apply pw_below_drewN | apply below_drew1) | exact HB.out)⟩

end Go.Proofs.YtnbkfneolgeeeaaDoor.Pr
