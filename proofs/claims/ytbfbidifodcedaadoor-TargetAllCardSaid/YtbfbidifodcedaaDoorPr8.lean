-- Made by a program of this session (wip/xp/xp.py), over the print's words.
import Derived.Test.YtbfbidifodcedaaDoorPr0
import Derived.Test.YtbfbidifodcedaaDoorPr7
namespace Go.Proofs.YtbfbidifodcedaaDoor.Pr
open Go.RowKit Go.Proofs.YtbfbidifodcedaaDoorW.PrintWords Go.Proofs.YtbfbidifodcedaaDoorW.PrintLast Go.Proofs.YtbfbidifodcedaaDoorW.PrintMore
attribute [local go_sem] max2_int min2_int max_two min_two max_three min_three max_four min_four   -- for this text's walks alone
set_option linter.unusedVariables false
set_option linter.unusedSimpArgs false

/-! ### lockkeeperref4_Clean: function 37 -/
mutual
def lockkeeperref4_Clean.j0 : Nat → ByteArray → Bool → Option (ByteArray)
 | 0,_,_ => none
 | k + 1,x0,x16 => if x16 = true then (if 1 + x0.size ≤ 9223372036854775807 then (lockkeeperref4_Clean.j1 k ((⟨#[47]⟩ : ByteArray) ++ x0)) else (none)) else (lockkeeperref4_Clean.j1 k x0)
def lockkeeperref4_Clean.j1 : Nat → ByteArray → Option (ByteArray)
 | 0,_ => none
 | k + 1,x0 => lockkeeperref4_Clean.l0 k x0 ([] : List ByteArray) 1 1
def lockkeeperref4_Clean.l0 : Nat → ByteArray → List ByteArray → Int → Int → Option (ByteArray)
 | 0,_,_,_,_ => none
 | k + 1,x0,x3,x4,x5 => if x5 ≤ (x0.size : Int) then (if x5 < (x0.size : Int) then (if 0 ≤ x5 then (lockkeeperref4_Clean.j3 k x0 x3 x4 x5 ((bt x0 x5) != 47)) else (none)) else (lockkeeperref4_Clean.j3 k x0 x3 x4 x5 false)) else (lockkeeperref4_Clean.l1 k x3 (⟨#[]⟩ : ByteArray) 0)
def lockkeeperref4_Clean.j3 : Nat → ByteArray → List ByteArray → Int → Int → Bool → Option (ByteArray)
 | 0,_,_,_,_,_ => none
 | k + 1,x0,x3,x4,x5,x34 => if x34 = true then (lockkeeperref4_Clean.l0 k x0 x3 x4 (wrap64 (x5 + 1))) else (if 0 ≤ x4 then (if x4 ≤ x5 then (if x5 ≤ (x0.size : Int) then ((lockkeeperref4_dots.f k (x0.extract (x4 : Int).toNat (x5 : Int).toNat)).bind fun t228 => (if t228 = 0 then (if x3.length < 8796093022208 then (lockkeeperref4_Clean.l0 k x0 (x3 ++ [x0.extract (x4 : Int).toNat (x5 : Int).toNat]) (wrap64 (x5 + 1)) (wrap64 (x5 + 1))) else (none)) else (if t228 = 2 then (lockkeeperref4_Clean.j4 k x0 x3 (wrap64 (x5 + 1)) x5 (decide ((x3.length : Int) > 0))) else (lockkeeperref4_Clean.j4 k x0 x3 (wrap64 (x5 + 1)) x5 false)))) else (none)) else (none)) else (none))
def lockkeeperref4_Clean.j4 : Nat → ByteArray → List ByteArray → Int → Int → Bool → Option (ByteArray)
 | 0,_,_,_,_,_ => none
 | k + 1,x0,x3,x4,x5,x55 => if x55 = true then (if 0 ≤ (wrap64 ((x3.length : Int) - 1)) then (if (wrap64 ((x3.length : Int) - 1)) ≤ (x3.length : Int) then ((some (x3.take ((wrap64 ((x3.length : Int) - 1)) : Int).toNat : List ByteArray)).bind fun y232 => (if x5 = (x0.size : Int) then (if y232.length < 8796093022208 then (lockkeeperref4_Clean.l0 k x0 (y232 ++ [(⟨#[]⟩ : ByteArray)]) x4 (wrap64 (x5 + 1))) else (none)) else (lockkeeperref4_Clean.l0 k x0 y232 x4 (wrap64 (x5 + 1))))) else (none)) else (none)) else (if x5 = (x0.size : Int) then (if x3.length < 8796093022208 then (lockkeeperref4_Clean.l0 k x0 (x3 ++ [(⟨#[]⟩ : ByteArray)]) x4 (wrap64 (x5 + 1))) else (none)) else (lockkeeperref4_Clean.l0 k x0 x3 x4 (wrap64 (x5 + 1))))
def lockkeeperref4_Clean.l1 : Nat → List ByteArray → ByteArray → Int → Option (ByteArray)
 | 0,_,_,_ => none
 | k + 1,x3,x8,x9 => if x9 < (x3.length : Int) then (if x8.size + 1 ≤ 9223372036854775807 then (if 0 ≤ x9 then (if (x8 ++ (⟨#[47]⟩ : ByteArray)).size + (rdOf ByteArray.empty x3 x9).size ≤ 9223372036854775807 then (lockkeeperref4_Clean.l1 k x3 ((x8 ++ (⟨#[47]⟩ : ByteArray)) ++ (rdOf ByteArray.empty x3 x9)) (wrap64 (x9 + 1))) else (none)) else (none)) else (none)) else (if x8.toList = ([] : List UInt8) then (some (⟨#[47]⟩ : ByteArray)) else (some x8))
end
def lockkeeperref4_Clean.f (k : Nat) (a0 : ByteArray) : Option (ByteArray):=if a0.toList = ([] : List UInt8) then (lockkeeperref4_Clean.j0 k a0 true) else (if 0 < (a0.size : Int) then (lockkeeperref4_Clean.j0 k a0 ((bt a0 0) != 47)) else (none))
theorem lockkeeperref4_Clean.mono_l : ∀ k,(∀ y0 y1,LeO (lockkeeperref4_Clean.j0 k y0 y1) (lockkeeperref4_Clean.j0 (k + 1) y0 y1)) ∧ (∀ y0,LeO (lockkeeperref4_Clean.j1 k y0) (lockkeeperref4_Clean.j1 (k + 1) y0)) ∧ (∀ y0 y1 y2 y3,LeO (lockkeeperref4_Clean.l0 k y0 y1 y2 y3) (lockkeeperref4_Clean.l0 (k + 1) y0 y1 y2 y3)) ∧ (∀ y0 y1 y2 y3 y4,LeO (lockkeeperref4_Clean.j3 k y0 y1 y2 y3 y4) (lockkeeperref4_Clean.j3 (k + 1) y0 y1 y2 y3 y4)) ∧ (∀ y0 y1 y2 y3 y4,LeO (lockkeeperref4_Clean.j4 k y0 y1 y2 y3 y4) (lockkeeperref4_Clean.j4 (k + 1) y0 y1 y2 y3 y4)) ∧ (∀ y0 y1 y2,LeO (lockkeeperref4_Clean.l1 k y0 y1 y2) (lockkeeperref4_Clean.l1 (k + 1) y0 y1 y2))
 | 0 => ⟨fun _ _ r h => by simp [lockkeeperref4_Clean.j0] at h,fun _ r h => by simp [lockkeeperref4_Clean.j1] at h,fun _ _ _ _ r h => by simp [lockkeeperref4_Clean.l0] at h,fun _ _ _ _ _ r h => by simp [lockkeeperref4_Clean.j3] at h,fun _ _ _ _ _ r h => by simp [lockkeeperref4_Clean.j4] at h,fun _ _ _ r h => by simp [lockkeeperref4_Clean.l1] at h⟩
 | k + 1 => by
  obtain ⟨ih0,ih1,ih2,ih3,ih4,ih5⟩:=lockkeeperref4_Clean.mono_l k
  refine ⟨?_,?_,?_,?_,?_,?_⟩
  ·intro y0 y1
   unfold lockkeeperref4_Clean.j0
   repeat' first
   | (with_reducible exact ih0 _ _)
   | (with_reducible exact ih1 _)
   | (with_reducible exact ih2 _ _ _ _)
   | (with_reducible exact ih3 _ _ _ _ _)
   | (with_reducible exact ih4 _ _ _ _ _)
   | (with_reducible exact ih5 _ _ _)
   | (with_reducible exact lockkeeperref4_dots.mono _ _)
   | (with_reducible exact LeO.refl _)
   | (with_reducible exact LeO.none _)
   | (with_reducible refine LeO.ite ?_ ?_)
   | (with_reducible refine LeO.bind ?_ (fun _ => ?_))
   | exact ih0 _ _
   | exact ih1 _
   | exact ih2 _ _ _ _
   | exact ih3 _ _ _ _ _
   | exact ih4 _ _ _ _ _
   | exact ih5 _ _ _
   | exact lockkeeperref4_dots.mono _ _
   | exact LeO.none _
   | refine LeO.ite ?_ ?_
   | refine LeO.bind ?_ (fun _ => ?_)
  ·intro y0
   unfold lockkeeperref4_Clean.j1
   repeat' first
   | (with_reducible exact ih0 _ _)
   | (with_reducible exact ih1 _)
   | (with_reducible exact ih2 _ _ _ _)
   | (with_reducible exact ih3 _ _ _ _ _)
   | (with_reducible exact ih4 _ _ _ _ _)
   | (with_reducible exact ih5 _ _ _)
   | (with_reducible exact lockkeeperref4_dots.mono _ _)
   | (with_reducible exact LeO.refl _)
   | (with_reducible exact LeO.none _)
   | (with_reducible refine LeO.ite ?_ ?_)
   | (with_reducible refine LeO.bind ?_ (fun _ => ?_))
   | exact ih0 _ _
   | exact ih1 _
   | exact ih2 _ _ _ _
   | exact ih3 _ _ _ _ _
   | exact ih4 _ _ _ _ _
   | exact ih5 _ _ _
   | exact lockkeeperref4_dots.mono _ _
   | exact LeO.none _
   | refine LeO.ite ?_ ?_
   | refine LeO.bind ?_ (fun _ => ?_)
  ·intro y0 y1 y2 y3
   unfold lockkeeperref4_Clean.l0
   repeat' first
   | (with_reducible exact ih0 _ _)
   | (with_reducible exact ih1 _)
   | (with_reducible exact ih2 _ _ _ _)
   | (with_reducible exact ih3 _ _ _ _ _)
   | (with_reducible exact ih4 _ _ _ _ _)
   | (with_reducible exact ih5 _ _ _)
   | (with_reducible exact lockkeeperref4_dots.mono _ _)
   | (with_reducible exact LeO.refl _)
   | (with_reducible exact LeO.none _)
   | (with_reducible refine LeO.ite ?_ ?_)
   | (with_reducible refine LeO.bind ?_ (fun _ => ?_))
   | exact ih0 _ _
   | exact ih1 _
   | exact ih2 _ _ _ _
   | exact ih3 _ _ _ _ _
   | exact ih4 _ _ _ _ _
   | exact ih5 _ _ _
   | exact lockkeeperref4_dots.mono _ _
   | exact LeO.none _
   | refine LeO.ite ?_ ?_
   | refine LeO.bind ?_ (fun _ => ?_)
  ·intro y0 y1 y2 y3 y4
   unfold lockkeeperref4_Clean.j3
   repeat' first
   | (with_reducible exact ih0 _ _)
   | (with_reducible exact ih1 _)
   | (with_reducible exact ih2 _ _ _ _)
   | (with_reducible exact ih3 _ _ _ _ _)
   | (with_reducible exact ih4 _ _ _ _ _)
   | (with_reducible exact ih5 _ _ _)
   | (with_reducible exact lockkeeperref4_dots.mono _ _)
   | (with_reducible exact LeO.refl _)
   | (with_reducible exact LeO.none _)
   | (with_reducible refine LeO.ite ?_ ?_)
   | (with_reducible refine LeO.bind ?_ (fun _ => ?_))
   | exact ih0 _ _
   | exact ih1 _
   | exact ih2 _ _ _ _
   | exact ih3 _ _ _ _ _
   | exact ih4 _ _ _ _ _
   | exact ih5 _ _ _
   | exact lockkeeperref4_dots.mono _ _
   | exact LeO.none _
   | refine LeO.ite ?_ ?_
   | refine LeO.bind ?_ (fun _ => ?_)
  ·intro y0 y1 y2 y3 y4
   unfold lockkeeperref4_Clean.j4
   repeat' first
   | (with_reducible exact ih0 _ _)
   | (with_reducible exact ih1 _)
   | (with_reducible exact ih2 _ _ _ _)
   | (with_reducible exact ih3 _ _ _ _ _)
   | (with_reducible exact ih4 _ _ _ _ _)
   | (with_reducible exact ih5 _ _ _)
   | (with_reducible exact lockkeeperref4_dots.mono _ _)
   | (with_reducible exact LeO.refl _)
   | (with_reducible exact LeO.none _)
   | (with_reducible refine LeO.ite ?_ ?_)
   | (with_reducible refine LeO.bind ?_ (fun _ => ?_))
   | exact ih0 _ _
   | exact ih1 _
   | exact ih2 _ _ _ _
   | exact ih3 _ _ _ _ _
   | exact ih4 _ _ _ _ _
   | exact ih5 _ _ _
   | exact lockkeeperref4_dots.mono _ _
   | exact LeO.none _
   | refine LeO.ite ?_ ?_
   | refine LeO.bind ?_ (fun _ => ?_)
  ·intro y0 y1 y2
   unfold lockkeeperref4_Clean.l1
   repeat' first
   | (with_reducible exact ih0 _ _)
   | (with_reducible exact ih1 _)
   | (with_reducible exact ih2 _ _ _ _)
   | (with_reducible exact ih3 _ _ _ _ _)
   | (with_reducible exact ih4 _ _ _ _ _)
   | (with_reducible exact ih5 _ _ _)
   | (with_reducible exact lockkeeperref4_dots.mono _ _)
   | (with_reducible exact LeO.refl _)
   | (with_reducible exact LeO.none _)
   | (with_reducible refine LeO.ite ?_ ?_)
   | (with_reducible refine LeO.bind ?_ (fun _ => ?_))
   | exact ih0 _ _
   | exact ih1 _
   | exact ih2 _ _ _ _
   | exact ih3 _ _ _ _ _
   | exact ih4 _ _ _ _ _
   | exact ih5 _ _ _
   | exact lockkeeperref4_dots.mono _ _
   | exact LeO.none _
   | refine LeO.ite ?_ ?_
   | refine LeO.bind ?_ (fun _ => ?_)
theorem lockkeeperref4_Clean.mono : ∀ a0 k,LeO (lockkeeperref4_Clean.f k a0) (lockkeeperref4_Clean.f (k + 1) a0):=by
 intro a0 k
 obtain ⟨ih0,ih1,ih2,ih3,ih4,ih5⟩:=lockkeeperref4_Clean.mono_l k
 unfold lockkeeperref4_Clean.f
 repeat' first
   | (with_reducible exact ih0 _ _)
   | (with_reducible exact ih1 _)
   | (with_reducible exact ih2 _ _ _ _)
   | (with_reducible exact ih3 _ _ _ _ _)
   | (with_reducible exact ih4 _ _ _ _ _)
   | (with_reducible exact ih5 _ _ _)
   | (with_reducible exact lockkeeperref4_dots.mono _ _)
   | (with_reducible exact LeO.refl _)
   | (with_reducible exact LeO.none _)
   | (with_reducible refine LeO.ite ?_ ?_)
   | (with_reducible refine LeO.bind ?_ (fun _ => ?_))
   | exact ih0 _ _
   | exact ih1 _
   | exact ih2 _ _ _ _
   | exact ih3 _ _ _ _ _
   | exact ih4 _ _ _ _ _
   | exact ih5 _ _ _
   | exact lockkeeperref4_dots.mono _ _
   | exact LeO.none _
   | refine LeO.ite ?_ ?_
   | refine LeO.bind ?_ (fun _ => ?_)
set_option maxHeartbeats 8000000 in
set_option maxRecDepth 100000 in
theorem lockkeeperref4_Clean.calls (k : Nat) (a0 : ByteArray) (r : ByteArray) (w : World) (h : lockkeeperref4_Clean.f k a0 = some r) :
  Calls Tryd.prog 37 #[.string a0] w fun e w' => e = .returned (.string r) ∧ Below w.heap.size w w':=by
 have HB:=Aside0.mk (Below.refl w.heap.size w)
 have H : (if a0.toList = ([] : List UInt8) then (lockkeeperref4_Clean.j0 k a0 true) else (if 0 < (a0.size : Int) then (lockkeeperref4_Clean.j0 k a0 ((bt a0 0) != 47)) else (none))) = some r:=h
 clear h
 have HC2:=Aside0.mk H
 clear H
 go_enter Tryd.func37,Tryd.ntmps37
 go_upto_region 1 with (fail)
 go_cut [16] (fun v16 wc => ∃ (kq : Nat) (x16_1 : Bool),v16 = .bool x16_1 ∧ Aside0 (lockkeeperref4_Clean.j0 kq a0 x16_1 = some r) ∧ Aside0 (kq ≤ k) ∧ Aside0 (Below w.heap.size w wc))
 case first =>
  have H:=HC2.out
  clear HC2
  by_cases c3 : a0.toList = ([] : List UInt8)
  ·rw [if_pos c3] at H
   have c3b0 : (a0.toList == ([] : List UInt8)) = true:=beq_iff_eq.mpr c3
   have c3b1 : (a0.toList != ([] : List UInt8)) = false:=bne_eq_false_iff_eq.mpr c3
   clear c3
   (first|rw [c3b0]|(simp only [i64_w,i32_w];rw [c3b0])|skip)
   have H':=Aside0.mk H
   clear H
   go_wp2
   go_meet
   case rel => exact ⟨_,(true),(by first|rfl|(simp;done)|(simp [*];done)),H',⟨by first|omega|exact Nat.le_refl _⟩,⟨by repeat (first|(with_reducible first|exact HB.out|apply below_alloc|apply pw_below_drewN|apply below_drew1)|exact HB.out)⟩⟩
  ·rw [if_neg c3] at H
   have c3b0 : (a0.toList == ([] : List UInt8)) = false:=beq_eq_false_iff_ne.mpr c3
   have c3b1 : (a0.toList != ([] : List UInt8)) = true:=bne_iff_ne.mpr c3
   (first|rw [c3b0]|(simp only [i64_w,i32_w];rw [c3b0])|skip)
   by_cases c4 : 0 < (a0.size : Int)
   ·rw [if_pos c4] at H
    have c4b0 : decide (0 < (a0.size : Int)) = true:=decide_eq_true c4
    have c4b1 : decide (0 < a0.size) = true:=decide_eq_true (by omega)
    clear c4
    have H':=Aside0.mk H
    clear H
    have p5 : 0 ≤ (0 : Int):=(by omega)
    have q5 : 0 < a0.size:=(by have : (0 : Int) < (a0.size : Int):=of_decide_eq_true (by first|(with_reducible assumption)|assumption);omega)
    have hx5 : ∀ h : 0 < a0.size,((a0[0]'h).toNat : Int) = bt a0 0:=bt_at a0 0
    clear p5
    have qi5 : (0 < (a0.size : Int)) = True:=eq_true (of_decide_eq_true (by first|(with_reducible assumption)|assumption))
    replace q5:=eq_true q5
    go_wp2
    go_meet
    case rel => exact ⟨_,(((bt a0 0) != 47)),(by first|rfl|(simp;done)|(simp [*];done)),H',⟨by first|omega|exact Nat.le_refl _⟩,⟨by repeat (first|(with_reducible first|exact HB.out|apply below_alloc|apply pw_below_drewN|apply below_drew1)|exact HB.out)⟩⟩
   ·rw [if_neg c4] at H
    exact absurd H (by simp)
 case rest =>
  clear HC2
  try clear p2
  try clear c3
  try clear c3b0
  try clear c3b1
  try clear c4
  try clear c4b0
  try clear c4b1
  try clear p5
  try clear q5
  try clear hx5
  try clear qi5
  try clear p5
  try clear q5
  obtain ⟨kq,x16_1,rfl,HA,HJ1,HB⟩:=hcut
  cases kq with
  | zero => exact absurd HA.out (by simp [lockkeeperref4_Clean.j0])
  | succ kj1 =>
   have H:=HA.out
   clear HA
   simp only [lockkeeperref4_Clean.j0] at H
   have HC6:=Aside0.mk H
   clear H
   go_upto_if 16 with (fail)
   go_cut [0] (fun v0 wc => ∃ (kq : Nat) (x0_5 : ByteArray),v0 = .string x0_5 ∧ Aside0 (lockkeeperref4_Clean.j1 kq x0_5 = some r) ∧ Aside0 (kq ≤ kj1) ∧ Aside0 (Below w.heap.size w wc))
   case first =>
    have H:=HC6.out
    clear HC6
    by_cases c7 : x16_1 = true
    ·subst c7
     have H1 : (if 1 + a0.size ≤ 9223372036854775807 then (lockkeeperref4_Clean.j1 kj1 ((⟨#[47]⟩ : ByteArray) ++ a0)) else (none)) = some r:=by rw [if_pos rfl] at H;exact H
     clear H
     have H:=H1
     clear H1
     by_cases c8 : 1 + a0.size ≤ 9223372036854775807
     ·rw [if_pos c8] at H
      have c8b0:=eq_true c8
      have c8b1 : decide (1 + a0.size ≤ 9223372036854775807) = true:=decide_eq_true c8
      try have c8b2 : (9223372036854775807 < 1 + a0.size) = False:=eq_false (Nat.not_lt.2 c8)
      have H':=Aside0.mk H
      clear H
      go_wp2
      go_meet
      case rel => exact ⟨_,((⟨#[47]⟩ : ByteArray) ++ a0),(by first|rfl|(simp;done)|(simp [*];done)),H',⟨by have:=HJ1.out;first|omega|exact Nat.le_refl _⟩,⟨by repeat (first|(with_reducible first|exact HB.out|apply below_alloc|apply pw_below_drewN|apply below_drew1)|exact HB.out)⟩⟩
     ·rw [if_neg c8] at H
      exact absurd H (by simp)
    ·replace c7:=Bool.eq_false_iff.mpr c7
     subst c7
     have H1 : (lockkeeperref4_Clean.j1 kj1 a0) = some r:=by rw [if_neg (show ¬ (false = true) by decide)] at H;exact H
     clear H
     have H:=H1
     clear H1
     have H':=Aside0.mk H
     clear H
     go_wp2
     go_meet
     case rel => exact ⟨_,(a0),(by first|rfl|(simp;done)|(simp [*];done)),H',⟨by have:=HJ1.out;first|omega|exact Nat.le_refl _⟩,⟨by repeat (first|(with_reducible first|exact HB.out|apply below_alloc|apply pw_below_drewN|apply below_drew1)|exact HB.out)⟩⟩
   case rest =>
    clear HC6
    try clear p2
    try clear c3
    try clear c3b0
    try clear c3b1
    try clear c4
    try clear c4b0
    try clear c4b1
    try clear p5
    try clear q5
    try clear hx5
    try clear qi5
    try clear c7
    try clear c8
    try clear c8b0
    try clear c8b1
    try clear c8b2
    try clear p2
    try clear p5
    try clear q5
    obtain ⟨kq,x0_5,rfl,HA,HJ5,HB⟩:=hcut
    cases kq with
    | zero => exact absurd HA.out (by simp [lockkeeperref4_Clean.j1])
    | succ kj5 =>
     have H:=HA.out
     clear HA
     simp only [lockkeeperref4_Clean.j1] at H
     have H':=Aside0.mk H
     clear H
     go_wp2
     go_loopg [3,4,5] kj5 (fun kq v3 v4 v5 w' => ∃ (x3_3 : List ByteArray) (x4_3 : Int) (x5_3 : Int),v4 = .int .i64 x4_3 ∧ v5 = .int .i64 x5_3 ∧ Aside0 (lockkeeperref4_Clean.l0 kq x0_5 x3_3 x4_3 x5_3 = some r) ∧ Aside0 (kq ≤ kj5) ∧ Aside0 (Kd.R Kd.string 9 w' w.heap.size (fun _ => True) v3 x3_3) ∧ Aside0 (Below w.heap.size w w'))
     case atStart => exact ⟨(([] : List ByteArray)),(1),(1),(by first|rfl|(simp;done)|(simp [*];done)),(by first|rfl|(simp;done)|(simp [*];done)),H',⟨Nat.le_refl _⟩,⟨by first|exact Kd.R_nil _ _ _ _ _|exact Kd.N_nil _ _ _ _ _|exact Kd.V_nil _ _ _ _ _|exact Kd.Q_nil _ _ _ _ _|exact Kd.S_nil _ _ _ _ _⟩,⟨by repeat (first|(with_reducible first|exact HB.out|apply below_alloc|apply pw_below_drewN|apply below_drew1)|exact HB.out)⟩⟩
     case round =>
      clear H'
      try clear p2
      try clear c3
      try clear c3b0
      try clear c3b1
      try clear c4
      try clear c4b0
      try clear c4b1
      try clear p5
      try clear q5
      try clear hx5
      try clear qi5
      try clear c7
      try clear c8
      try clear c8b0
      try clear c8b1
      try clear c8b2
      try clear p2
      try clear p5
      try clear q5
      obtain ⟨x3_3,x4_3,x5_3,rfl,rfl,HA,HK3,HO_3,HB⟩:=hrel
      cases gk with
      | zero => exact absurd HA.out (by simp [lockkeeperref4_Clean.l0])
      | succ k3 =>
       have H:=HA.out
       clear HA
       simp only [lockkeeperref4_Clean.l0] at H
       by_cases c9 : x5_3 ≤ (x0_5.size : Int)
       ·rw [if_pos c9] at H
        have c9b0 : decide (x5_3 ≤ (x0_5.size : Int)) = true:=decide_eq_true c9
        clear c9
        have HC10:=Aside0.mk H
        clear H
        go_upto_region 8 with (fail)
        go_cut [34] (fun v34 wc => ∃ (kq : Nat) (x34_9 : Bool),v34 = .bool x34_9 ∧ Aside0 (lockkeeperref4_Clean.j3 kq x0_5 x3_3 x4_3 x5_3 x34_9 = some r) ∧ Aside0 (kq ≤ k3) ∧ Aside0 (Kd.R Kd.string 9 wc w.heap.size (fun _ => True) u3 x3_3) ∧ Aside0 (Below w.heap.size w wc))
        case first =>
         have H:=HC10.out
         clear HC10
         by_cases c11 : x5_3 < (x0_5.size : Int)
         ·rw [if_pos c11] at H
          have c11b0 : decide (x5_3 < (x0_5.size : Int)) = true:=decide_eq_true c11
          clear c11
          (first|rw [c11b0]|(simp only [i64_w,i32_w];rw [c11b0])|skip)
          by_cases c12 : 0 ≤ x5_3
          ·rw [if_pos c12] at H
           have c12b0 : decide (0 ≤ x5_3) = true:=decide_eq_true c12
           clear c12
           have H':=Aside0.mk H
           clear H
           have p13 : 0 ≤ (x5_3 : Int):=of_decide_eq_true (by first|(with_reducible assumption)|assumption)
           have q13 : x5_3 < (x0_5.size : Int):=of_decide_eq_true (by first|(with_reducible assumption)|assumption)
           have hx13:=bt_at x0_5 x5_3
           replace p13:=eq_true p13
           replace q13:=eq_true q13
           go_wp2
           go_meet
           case rel => exact ⟨_,(((bt x0_5 x5_3) != 47)),(by first|rfl|(simp;done)|(simp [*];done)),H',⟨by have:=HJ1.out;have:=HJ5.out;have:=HK3.out;first|omega|exact Nat.le_refl _⟩,⟨by (with_reducible repeat (first|apply Kd.R_alloc|apply Kd.R_drewN|apply Kd.R_drew));exact HO_3.out⟩,⟨by repeat (first|(with_reducible first|exact HB.out|apply below_alloc|apply pw_below_drewN|apply below_drew1)|exact HB.out)⟩⟩
          ·rw [if_neg c12] at H
           exact absurd H (by simp)
         ·rw [if_neg c11] at H
          have c11b0 : decide (x5_3 < (x0_5.size : Int)) = false:=decide_eq_false c11
          clear c11
          (first|rw [c11b0]|(simp only [i64_w,i32_w];rw [c11b0])|skip)
          have H':=Aside0.mk H
          clear H
          go_wp2
          go_meet
          case rel => exact ⟨_,(false),(by first|rfl|(simp;done)|(simp [*];done)),H',⟨by have:=HJ1.out;have:=HJ5.out;have:=HK3.out;first|omega|exact Nat.le_refl _⟩,⟨by (with_reducible repeat (first|apply Kd.R_alloc|apply Kd.R_drewN|apply Kd.R_drew));exact HO_3.out⟩,⟨by repeat (first|(with_reducible first|exact HB.out|apply below_alloc|apply pw_below_drewN|apply below_drew1)|exact HB.out)⟩⟩
        case rest =>
         clear HC10
         try clear c1
         try clear p1
         try clear q1
         try clear hx1
         try clear p2
         try clear c3
         try clear c3b0
         try clear c3b1
         try clear c4
         try clear c4b0
         try clear c4b1
         try clear p5
         try clear q5
         try clear hx5
         try clear qi5
         try clear c7
         try clear c8
         try clear c8b0
         try clear c8b1
         try clear c8b2
         try clear c9
         try clear c9b0
         try clear c11
         try clear c11b0
         try clear c12
         try clear c12b0
         try clear p13
         try clear q13
         try clear hx13
         try clear p13
         try clear p2
         try clear p5
         try clear q13
         try clear q5
         obtain ⟨kq,x34_9,rfl,HA,HJ9,HO_3,HB⟩:=hcut
         cases kq with
         | zero => exact absurd HA.out (by simp [lockkeeperref4_Clean.j3])
         | succ kj9 =>
          have H:=HA.out
          clear HA
          simp only [lockkeeperref4_Clean.j3] at H
          by_cases c14 : x34_9 = true
          ·subst c14
           have H1 : (lockkeeperref4_Clean.l0 kj9 x0_5 x3_3 x4_3 (wrap64 (x5_3 + 1))) = some r:=by rw [if_pos rfl] at H;exact H
           clear H
           have H:=H1
           clear H1
           have H':=Aside0.mk H
           clear H
           go_wp2
           go_roundg kj9
           case measure => have:=HJ1.out;have:=HJ5.out;have:=HK3.out;have:=HJ9.out;omega
           case rel => exact ⟨(x3_3),(x4_3),(wrap64 (x5_3 + 1)),(by first|rfl|(simp;done)|(simp [*];done)),(by first|rfl|(simp;done)|(simp [*];done)),H',⟨by have:=HJ1.out;have:=HJ5.out;have:=HK3.out;have:=HJ9.out;omega⟩,⟨by (with_reducible repeat (first|apply Kd.R_alloc|apply Kd.R_drewN|apply Kd.R_drew));exact HO_3.out⟩,⟨by repeat (first|(with_reducible first|exact HB.out|apply below_alloc|apply pw_below_drewN|apply below_drew1)|exact HB.out)⟩⟩
          ·replace c14:=Bool.eq_false_iff.mpr c14
           subst c14
           have H1 : (if 0 ≤ x4_3 then (if x4_3 ≤ x5_3 then (if x5_3 ≤ (x0_5.size : Int) then ((lockkeeperref4_dots.f kj9 (x0_5.extract (x4_3 : Int).toNat (x5_3 : Int).toNat)).bind fun t228 => (if t228 = 0 then (if x3_3.length < 8796093022208 then (lockkeeperref4_Clean.l0 kj9 x0_5 (x3_3 ++ [x0_5.extract (x4_3 : Int).toNat (x5_3 : Int).toNat]) (wrap64 (x5_3 + 1)) (wrap64 (x5_3 + 1))) else (none)) else (if t228 = 2 then (lockkeeperref4_Clean.j4 kj9 x0_5 x3_3 (wrap64 (x5_3 + 1)) x5_3 (decide ((x3_3.length : Int) > 0))) else (lockkeeperref4_Clean.j4 kj9 x0_5 x3_3 (wrap64 (x5_3 + 1)) x5_3 false)))) else (none)) else (none)) else (none)) = some r:=by rw [if_neg (show ¬ (false = true) by decide)] at H;exact H
           clear H
           have H:=H1
           clear H1
           by_cases c15 : 0 ≤ x4_3
           ·rw [if_pos c15] at H
            have c15b0:=eq_true c15
            have c15b1 : decide (0 ≤ x4_3) = true:=decide_eq_true c15
            clear c15
            by_cases c16 : x4_3 ≤ x5_3
            ·rw [if_pos c16] at H
             have c16b0:=eq_true c16
             have c16b1 : decide (x4_3 ≤ x5_3) = true:=decide_eq_true c16
             clear c16
             by_cases c17 : x5_3 ≤ (x0_5.size : Int)
             ·rw [if_pos c17] at H
              have c17b0:=eq_true c17
              have c17b1 : decide (x5_3 ≤ (x0_5.size : Int)) = true:=decide_eq_true c17
              clear c17
              replace H:=Option.bind_eq_some_iff.mp H
              obtain ⟨t228,A180,H⟩:=H
              replace H : (if t228 = 0 then (if x3_3.length < 8796093022208 then (lockkeeperref4_Clean.l0 kj9 x0_5 (x3_3 ++ [x0_5.extract (x4_3 : Int).toNat (x5_3 : Int).toNat]) (wrap64 (x5_3 + 1)) (wrap64 (x5_3 + 1))) else (none)) else (if t228 = 2 then (lockkeeperref4_Clean.j4 kj9 x0_5 x3_3 (wrap64 (x5_3 + 1)) x5_3 (decide ((x3_3.length : Int) > 0))) else (lockkeeperref4_Clean.j4 kj9 x0_5 x3_3 (wrap64 (x5_3 + 1)) x5_3 false))) = some r:=H
              have A18:=Aside0.mk A180
              clear A180
              by_cases c19 : t228 = 0
              ·rw [if_pos c19] at H
               have c19b0 : (t228 == 0) = true:=beq_iff_eq.mpr c19
               have c19b1 : (t228 != 0) = false:=bne_eq_false_iff_eq.mpr c19
               clear c19
               by_cases c20 : x3_3.length < 8796093022208
               ·rw [if_pos c20] at H
                have LMc20:=Aside0.mk c20
                clear c20
                obtain ⟨y229,hy229⟩ : ∃ y_ : List ByteArray,y_ = (x3_3 ++ [x0_5.extract (x4_3 : Int).toNat (x5_3 : Int).toNat]):=⟨_,rfl⟩
                replace H : (lockkeeperref4_Clean.l0 kj9 x0_5 y229 (wrap64 (x5_3 + 1)) (wrap64 (x5_3 + 1))) = some r:=by first|(rw [hy229];with_reducible exact H)|(have H2_:=(Option.bind_some _ _).symm.trans H;rw [hy229];with_reducible exact H2_)|(have H2_:=(Option.bind_some _ _).symm.trans H;with_reducible exact H2_)|with_reducible exact H|(rw [hy229];exact H)|exact H
                have Ny229:=Aside0.mk hy229
                clear hy229
                have H':=Aside0.mk H
                clear H
                go_wp2_with (first|((with_reducible refine gate_callee (f:=62) rfl ?_);refine goesL_ (some 40) rfl rfl Tryd.func62 (by kernel_rfl) rfl #[.string (x0_5.extract (x4_3 : Int).toNat (x5_3 : Int).toNat)] rfl (by (try simp only [List.map_toArray,List.map_cons,List.map_nil]);first|done|rfl|(simp only [List.length_drop,List.length_take];rfl)) ?_;(with_reducible refine (lockkeeperref4_dots.calls kj9 (x0_5.extract (x4_3 : Int).toNat (x5_3 : Int).toNat) t228 _ A18.out).mono ?_);rintro e w21 ⟨rfl,hb⟩;refine ⟨_,rfl,?_⟩;have n0_:=Aside0.mk (Kd.R_below (by (with_reducible repeat (first|apply Kd.R_alloc|apply Kd.R_drewN|apply Kd.R_drew));exact HO_3.out) hb);have n1_:=Aside0.mk (below_step (by repeat (first|(with_reducible first|exact HB.out|apply below_alloc|apply pw_below_drewN|apply below_drew1)|exact HB.out)) hb);clear HO_3;clear HB;have HO_3:=n0_;have HB:=n1_;clear n0_ n1_;(try clear hb);(try clear hb2);(try clear hk);(try clear hi))|((with_reducible refine gate_builtin (b:=.append) (xs:=#[.tmp 45,.tmp 47]) rfl ?_);(try (refine gate_guard (by rfl) ?_;dsimp only));at_builtin;refine Kd.R_append Kd.string (w0:=w) w.heap.size rfl (.tmp 45) (.tmp 47) 52 9 (.string ⟨#[]⟩) 16 rfl Tryd.underlying52 info9 rfl (by decide) (by omega) u3 x3_3 (x0_5.extract (x4_3 : Int).toNat (x5_3 : Int).toNat) [.string (x0_5.extract (x4_3 : Int).toNat (x5_3 : Int).toNat)] (fun _ => True) (fun _ => False) rfl rfl ?aP (fun _ hk => hk.elim) ?aF ?aO ?aB ?aS ?aL ?_;(case aP => exact rfl);(case aB => exact (by repeat (first|(with_reducible first|exact HB.out|apply below_alloc|apply pw_below_drewN|apply below_drew1)|exact HB.out)));(case aF => exact (fun _ _ => trivial));(case aO => exact (by (with_reducible repeat (first|apply Kd.R_alloc|apply Kd.R_drewN|apply Kd.R_drew));exact HO_3.out));(case aS => exact (below_size (by repeat (first|(with_reducible first|exact HB.out|apply below_alloc|apply pw_below_drewN|apply below_drew1)|exact HB.out))));(case aL => have:=LMc20.out;omega);intro v230 w22 ho hb hg hat;rw [← Ny229.out] at ho;have n0_:=Aside0.mk (hb);have n1_:=Aside0.mk (ho);clear HB;clear HO_3;have HB:=n0_;have HO231:=n1_;clear n0_ n1_;clear ho hb hg hat))
                go_roundg kj9
                case measure => have:=HJ1.out;have:=HJ5.out;have:=HK3.out;have:=HJ9.out;omega
                case rel => exact ⟨(y229),(wrap64 (x5_3 + 1)),(wrap64 (x5_3 + 1)),(by first|rfl|(simp;done)|(simp [*];done)),(by first|rfl|(simp;done)|(simp [*];done)),H',⟨by have:=HJ1.out;have:=HJ5.out;have:=HK3.out;have:=HJ9.out;omega⟩,⟨by (with_reducible repeat (first|apply Kd.R_alloc|apply Kd.R_drewN|apply Kd.R_drew));exact HO231.out⟩,⟨by repeat (first|(with_reducible first|exact HB.out|apply below_alloc|apply pw_below_drewN|apply below_drew1)|exact HB.out)⟩⟩
               ·rw [if_neg c20] at H
                exact absurd H (by simp)
              ·rw [if_neg c19] at H
               have c19b0 : (t228 == 0) = false:=beq_eq_false_iff_ne.mpr c19
               have c19b1 : (t228 != 0) = true:=bne_iff_ne.mpr c19
               have HC23:=Aside0.mk H
               clear H
               go_upto_region 14 with (first|((with_reducible refine gate_callee (f:=62) rfl ?_);refine goesL_ (some 40) rfl rfl Tryd.func62 (by kernel_rfl) rfl #[.string (x0_5.extract (x4_3 : Int).toNat (x5_3 : Int).toNat)] rfl (by (try simp only [List.map_toArray,List.map_cons,List.map_nil]);first|done|rfl|(simp only [List.length_drop,List.length_take];rfl)) ?_;(with_reducible refine (lockkeeperref4_dots.calls kj9 (x0_5.extract (x4_3 : Int).toNat (x5_3 : Int).toNat) t228 _ A18.out).mono ?_);rintro e w24 ⟨rfl,hb⟩;refine ⟨_,rfl,?_⟩;have n0_:=Aside0.mk (Kd.R_below (by (with_reducible repeat (first|apply Kd.R_alloc|apply Kd.R_drewN|apply Kd.R_drew));exact HO_3.out) hb);have n1_:=Aside0.mk (below_step (by repeat (first|(with_reducible first|exact HB.out|apply below_alloc|apply pw_below_drewN|apply below_drew1)|exact HB.out)) hb);clear HO_3;clear HB;have HO_3:=n0_;have HB:=n1_;clear n0_ n1_;(try clear hb);(try clear hb2);(try clear hk);(try clear hi)))
               (try simp only [Act.put,List.setIfInBounds_toArray,List.set_cons_zero,List.set_cons_succ])
               go_cut [55] (fun v55 wc => ∃ (kq : Nat) (x55_22 : Bool),v55 = .bool x55_22 ∧ Aside0 (lockkeeperref4_Clean.j4 kq x0_5 x3_3 (wrap64 (x5_3 + 1)) x5_3 x55_22 = some r) ∧ Aside0 (kq ≤ kj9) ∧ Aside0 (Kd.R Kd.string 9 wc w.heap.size (fun _ => True) u3 x3_3) ∧ Aside0 (Below w.heap.size w wc))
               case first =>
                have H:=HC23.out
                clear HC23
                by_cases c25 : t228 = 2
                ·rw [if_pos c25] at H
                 have c25b0 : (t228 == 2) = true:=beq_iff_eq.mpr c25
                 have c25b1 : (t228 != 2) = false:=bne_eq_false_iff_eq.mpr c25
                 clear c25
                 (first|rw [c25b0]|(simp only [i64_w,i32_w];rw [c25b0])|skip)
                 have H':=Aside0.mk H
                 clear H
                 obtain ⟨Ao26,co26,eo26⟩:=Kd.R_slice HO_3.out
                 subst eo26
                 go_wp2
                 go_meet
                 case rel => exact ⟨_,(decide ((x3_3.length : Int) > 0)),(by first|rfl|(simp;done)|(simp [*];done)),H',⟨by have:=HJ1.out;have:=HJ5.out;have:=HK3.out;have:=HJ9.out;first|omega|exact Nat.le_refl _⟩,⟨by (with_reducible repeat (first|apply Kd.R_alloc|apply Kd.R_drewN|apply Kd.R_drew));exact HO_3.out⟩,⟨by repeat (first|(with_reducible first|exact HB.out|apply below_alloc|apply pw_below_drewN|apply below_drew1)|exact HB.out)⟩⟩
                ·rw [if_neg c25] at H
                 have c25b0 : (t228 == 2) = false:=beq_eq_false_iff_ne.mpr c25
                 have c25b1 : (t228 != 2) = true:=bne_iff_ne.mpr c25
                 (first|rw [c25b0]|(simp only [i64_w,i32_w];rw [c25b0])|skip)
                 have H':=Aside0.mk H
                 clear H
                 go_wp2
                 go_meet
                 case rel => exact ⟨_,(false),(by first|rfl|(simp;done)|(simp [*];done)),H',⟨by have:=HJ1.out;have:=HJ5.out;have:=HK3.out;have:=HJ9.out;first|omega|exact Nat.le_refl _⟩,⟨by (with_reducible repeat (first|apply Kd.R_alloc|apply Kd.R_drewN|apply Kd.R_drew));exact HO_3.out⟩,⟨by repeat (first|(with_reducible first|exact HB.out|apply below_alloc|apply pw_below_drewN|apply below_drew1)|exact HB.out)⟩⟩
               case rest =>
                clear HC23
                try clear c1
                try clear p1
                try clear q1
                try clear hx1
                try clear c2
                try clear p2
                try clear c3
                try clear c3b0
                try clear c3b1
                try clear c4
                try clear c4b0
                try clear c4b1
                try clear p5
                try clear q5
                try clear hx5
                try clear qi5
                try clear c6
                try clear p6
                try clear c7
                try clear c8
                try clear c8b0
                try clear c8b1
                try clear c8b2
                try clear c9
                try clear c9b0
                try clear c11
                try clear c11b0
                try clear c12
                try clear c12b0
                try clear p13
                try clear q13
                try clear hx13
                try clear c14
                try clear c15
                try clear c15b0
                try clear c15b1
                try clear c16
                try clear c16b0
                try clear c16b1
                try clear c17
                try clear c17b0
                try clear c17b1
                try clear c19
                try clear c19b0
                try clear c19b1
                try clear c20
                try clear c25
                try clear c25b0
                try clear c25b1
                try clear p1
                try clear p13
                try clear p2
                try clear p5
                try clear q1
                try clear q13
                try clear q5
                obtain ⟨kq,x55_22,rfl,HA,HJ22,HO_3,HB⟩:=hcut
                cases kq with
                | zero => exact absurd HA.out (by simp [lockkeeperref4_Clean.j4])
                | succ kj22 =>
                 have H:=HA.out
                 clear HA
                 simp only [lockkeeperref4_Clean.j4] at H
                 by_cases c27 : x55_22 = true
                 ·subst c27
                  have H1 : (if 0 ≤ (wrap64 ((x3_3.length : Int) - 1)) then (if (wrap64 ((x3_3.length : Int) - 1)) ≤ (x3_3.length : Int) then ((some (x3_3.take ((wrap64 ((x3_3.length : Int) - 1)) : Int).toNat : List ByteArray)).bind fun y232 => (if x5_3 = (x0_5.size : Int) then (if y232.length < 8796093022208 then (lockkeeperref4_Clean.l0 kj22 x0_5 (y232 ++ [(⟨#[]⟩ : ByteArray)]) (wrap64 (x5_3 + 1)) (wrap64 (x5_3 + 1))) else (none)) else (lockkeeperref4_Clean.l0 kj22 x0_5 y232 (wrap64 (x5_3 + 1)) (wrap64 (x5_3 + 1))))) else (none)) else (none)) = some r:=by rw [if_pos rfl] at H;exact H
                  clear H
                  have H:=H1
                  clear H1
                  obtain ⟨ji28,hji28⟩ : ∃ j_ : Int,(wrap64 ((x3_3.length : Int) - 1)) = j_:=⟨_,rfl⟩
                  replace H : (if 0 ≤ (ji28) then (if (ji28) ≤ (x3_3.length : Int) then ((some (x3_3.take ((ji28) : Int).toNat : List ByteArray)).bind fun y232 => (if x5_3 = (x0_5.size : Int) then (if y232.length < 8796093022208 then (lockkeeperref4_Clean.l0 kj22 x0_5 (y232 ++ [(⟨#[]⟩ : ByteArray)]) (wrap64 (x5_3 + 1)) (wrap64 (x5_3 + 1))) else (none)) else (lockkeeperref4_Clean.l0 kj22 x0_5 y232 (wrap64 (x5_3 + 1)) (wrap64 (x5_3 + 1))))) else (none)) else (none)) = some r:=by first|(rw [hji28] at H;exact H)|(simp only [hji28] at H ⊢;exact H)
                  have hji28w : (IntKind.i64.wrap ((x3_3.length : Int) - 1)) = ji28:=(i64_w _).trans hji28
                  by_cases c29 : 0 ≤ (ji28)
                  ·rw [if_pos c29] at H
                   have c29b0:=eq_true c29
                   have c29b1 : decide (0 ≤ (ji28)) = true:=decide_eq_true c29
                   clear c29
                   by_cases c30 : (ji28) ≤ (x3_3.length : Int)
                   ·rw [if_pos c30] at H
                    have c30b0:=eq_true c30
                    have c30b1 : decide ((ji28) ≤ (x3_3.length : Int)) = true:=decide_eq_true c30
                    clear c30
                    obtain ⟨y232,hy232⟩ : ∃ y_ : List ByteArray,y_ = (x3_3.take ((ji28) : Int).toNat):=⟨_,rfl⟩
                    replace H : (if x5_3 = (x0_5.size : Int) then (if y232.length < 8796093022208 then (lockkeeperref4_Clean.l0 kj22 x0_5 (y232 ++ [(⟨#[]⟩ : ByteArray)]) (wrap64 (x5_3 + 1)) (wrap64 (x5_3 + 1))) else (none)) else (lockkeeperref4_Clean.l0 kj22 x0_5 y232 (wrap64 (x5_3 + 1)) (wrap64 (x5_3 + 1)))) = some r:=by first|(rw [hy232];with_reducible exact H)|(have H2_:=(Option.bind_some _ _).symm.trans H;rw [hy232];with_reducible exact H2_)|(have H2_:=(Option.bind_some _ _).symm.trans H;with_reducible exact H2_)|with_reducible exact H|(rw [hy232];exact H)|exact H
                    have Ny232:=Aside0.mk hy232
                    clear hy232
                    by_cases c31 : x5_3 = (x0_5.size : Int)
                    ·rw [if_pos c31] at H
                     have c31b0 : (x5_3 == (x0_5.size : Int)) = true:=beq_iff_eq.mpr c31
                     have c31b1 : (x5_3 != (x0_5.size : Int)) = false:=bne_eq_false_iff_eq.mpr c31
                     clear c31
                     by_cases c32 : y232.length < 8796093022208
                     ·rw [if_pos c32] at H
                      have LMc32:=Aside0.mk c32
                      clear c32
                      obtain ⟨y235,hy235⟩ : ∃ y_ : List ByteArray,y_ = (y232 ++ [(⟨#[]⟩ : ByteArray)]):=⟨_,rfl⟩
                      replace H : (lockkeeperref4_Clean.l0 kj22 x0_5 y235 (wrap64 (x5_3 + 1)) (wrap64 (x5_3 + 1))) = some r:=by first|(rw [hy235];with_reducible exact H)|(have H2_:=(Option.bind_some _ _).symm.trans H;rw [hy235];with_reducible exact H2_)|(have H2_:=(Option.bind_some _ _).symm.trans H;with_reducible exact H2_)|with_reducible exact H|(rw [hy235];exact H)|exact H
                      have Ny235:=Aside0.mk hy235
                      clear hy235
                      have H':=Aside0.mk H
                      clear H
                      obtain ⟨Ao33,co33,eo33⟩:=Kd.R_slice HO_3.out
                      subst eo33
                      have q34 : ((ji28) : Int) ≤ ((x3_3.length : Int) : Int):=of_decide_eq_true (by first|(with_reducible assumption)|assumption)
                      obtain ⟨i034,hi034,_,hsz34,_⟩:=info_parts info9
                      have hcut34:=cut_to (P:=Tryd.prog) 52 9 .i64 Tryd.underlying52 hi034 Ao33 x3_3.length co33 (ji28) (of_decide_eq_true (by first|(with_reducible assumption)|assumption)) q34 (Kd.R_reads' HO_3.out).2.1
                      have hr34:=Kd.R_take (m:=((ji28) : Int).toNat) HO_3.out (by omega)
                      have hy34 : y232.length = ((ji28) : Int).toNat:=(by rw [Ny232.out,List.length_take];omega)
                      rw [← Ny232.out] at hr34
                      rw [← hy34] at hr34 hcut34
                      clear hy34 hi034 hsz34 HO_3
                      have HO234:=Aside0.mk hr34
                      clear hr34
                      replace q34:=eq_true q34
                      go_wp2_with (first|((with_reducible refine gate_builtin (b:=.append) (xs:=#[.tmp 65,.tmp 66]) rfl ?_);(try (refine gate_guard (by rfl) ?_;dsimp only));at_builtin;refine Kd.R_append Kd.string (w0:=w) w.heap.size rfl (.tmp 65) (.tmp 66) 52 9 (.string ⟨#[]⟩) 16 rfl Tryd.underlying52 info9 rfl (by decide) (by omega) (.slice Ao33 y232.length co33) y232 (⟨#[]⟩ : ByteArray) [.string (⟨#[]⟩ : ByteArray)] (fun _ => True) (fun _ => False) rfl rfl ?aP (fun _ hk => hk.elim) ?aF ?aO ?aB ?aS ?aL ?_;(case aP => exact rfl);(case aB => exact (by repeat (first|(with_reducible first|exact HB.out|apply below_alloc|apply pw_below_drewN|apply below_drew1)|exact HB.out)));(case aF => exact (fun _ _ => trivial));(case aO => exact (by (with_reducible repeat (first|apply Kd.R_alloc|apply Kd.R_drewN|apply Kd.R_drew));exact HO234.out));(case aS => exact (below_size (by repeat (first|(with_reducible first|exact HB.out|apply below_alloc|apply pw_below_drewN|apply below_drew1)|exact HB.out))));(case aL => have:=LMc32.out;omega);intro v236 w35 ho hb hg hat;rw [← Ny235.out] at ho;have n0_:=Aside0.mk (hb);have n1_:=Aside0.mk (ho);clear HB;clear HO234;have HB:=n0_;have HO237:=n1_;clear n0_ n1_;clear ho hb hg hat))
                      go_roundg kj22
                      case measure => have:=HJ1.out;have:=HJ5.out;have:=HK3.out;have:=HJ9.out;have:=HJ22.out;omega
                      case rel => exact ⟨(y235),((wrap64 (x5_3 + 1))),(wrap64 (x5_3 + 1)),(by first|rfl|(simp;done)|(simp [*];done)),(by first|rfl|(simp;done)|(simp [*];done)),H',⟨by have:=HJ1.out;have:=HJ5.out;have:=HK3.out;have:=HJ9.out;have:=HJ22.out;omega⟩,⟨by (with_reducible repeat (first|apply Kd.R_alloc|apply Kd.R_drewN|apply Kd.R_drew));exact HO237.out⟩,⟨by repeat (first|(with_reducible first|exact HB.out|apply below_alloc|apply pw_below_drewN|apply below_drew1)|exact HB.out)⟩⟩
                     ·rw [if_neg c32] at H
                      exact absurd H (by simp)
                    ·rw [if_neg c31] at H
                     have c31b0 : (x5_3 == (x0_5.size : Int)) = false:=beq_eq_false_iff_ne.mpr c31
                     have c31b1 : (x5_3 != (x0_5.size : Int)) = true:=bne_iff_ne.mpr c31
                     have H':=Aside0.mk H
                     clear H
                     obtain ⟨Ao36,co36,eo36⟩:=Kd.R_slice HO_3.out
                     subst eo36
                     have q37 : ((ji28) : Int) ≤ ((x3_3.length : Int) : Int):=of_decide_eq_true (by first|(with_reducible assumption)|assumption)
                     obtain ⟨i037,hi037,_,hsz37,_⟩:=info_parts info9
                     have hcut37:=cut_to (P:=Tryd.prog) 52 9 .i64 Tryd.underlying52 hi037 Ao36 x3_3.length co36 (ji28) (of_decide_eq_true (by first|(with_reducible assumption)|assumption)) q37 (Kd.R_reads' HO_3.out).2.1
                     have hr37:=Kd.R_take (m:=((ji28) : Int).toNat) HO_3.out (by omega)
                     have hy37 : y232.length = ((ji28) : Int).toNat:=(by rw [Ny232.out,List.length_take];omega)
                     rw [← Ny232.out] at hr37
                     rw [← hy37] at hr37 hcut37
                     clear hy37 hi037 hsz37 HO_3
                     have HO234:=Aside0.mk hr37
                     clear hr37
                     replace q37:=eq_true q37
                     go_wp2
                     go_roundg kj22
                     case measure => have:=HJ1.out;have:=HJ5.out;have:=HK3.out;have:=HJ9.out;have:=HJ22.out;omega
                     case rel => exact ⟨(y232),((wrap64 (x5_3 + 1))),(wrap64 (x5_3 + 1)),(by first|rfl|(simp;done)|(simp [*];done)),(by first|rfl|(simp;done)|(simp [*];done)),H',⟨by have:=HJ1.out;have:=HJ5.out;have:=HK3.out;have:=HJ9.out;have:=HJ22.out;omega⟩,⟨by (with_reducible repeat (first|apply Kd.R_alloc|apply Kd.R_drewN|apply Kd.R_drew));exact HO234.out⟩,⟨by repeat (first|(with_reducible first|exact HB.out|apply below_alloc|apply pw_below_drewN|apply below_drew1)|exact HB.out)⟩⟩
                   ·rw [if_neg c30] at H
                    exact absurd H (by simp)
                  ·rw [if_neg c29] at H
                   exact absurd H (by simp)
                 ·replace c27:=Bool.eq_false_iff.mpr c27
                  subst c27
                  have H1 : (if x5_3 = (x0_5.size : Int) then (if x3_3.length < 8796093022208 then (lockkeeperref4_Clean.l0 kj22 x0_5 (x3_3 ++ [(⟨#[]⟩ : ByteArray)]) (wrap64 (x5_3 + 1)) (wrap64 (x5_3 + 1))) else (none)) else (lockkeeperref4_Clean.l0 kj22 x0_5 x3_3 (wrap64 (x5_3 + 1)) (wrap64 (x5_3 + 1)))) = some r:=by rw [if_neg (show ¬ (false = true) by decide)] at H;exact H
                  clear H
                  have H:=H1
                  clear H1
                  by_cases c38 : x5_3 = (x0_5.size : Int)
                  ·rw [if_pos c38] at H
                   have c38b0 : (x5_3 == (x0_5.size : Int)) = true:=beq_iff_eq.mpr c38
                   have c38b1 : (x5_3 != (x0_5.size : Int)) = false:=bne_eq_false_iff_eq.mpr c38
                   clear c38
                   by_cases c39 : x3_3.length < 8796093022208
                   ·rw [if_pos c39] at H
                    have LMc39:=Aside0.mk c39
                    clear c39
                    obtain ⟨y238,hy238⟩ : ∃ y_ : List ByteArray,y_ = (x3_3 ++ [(⟨#[]⟩ : ByteArray)]):=⟨_,rfl⟩
                    replace H : (lockkeeperref4_Clean.l0 kj22 x0_5 y238 (wrap64 (x5_3 + 1)) (wrap64 (x5_3 + 1))) = some r:=by first|(rw [hy238];with_reducible exact H)|(have H2_:=(Option.bind_some _ _).symm.trans H;rw [hy238];with_reducible exact H2_)|(have H2_:=(Option.bind_some _ _).symm.trans H;with_reducible exact H2_)|with_reducible exact H|(rw [hy238];exact H)|exact H
                    have Ny238:=Aside0.mk hy238
                    clear hy238
                    have H':=Aside0.mk H
                    clear H
                    go_wp2_with (first|((with_reducible refine gate_builtin (b:=.append) (xs:=#[.tmp 65,.tmp 66]) rfl ?_);(try (refine gate_guard (by rfl) ?_;dsimp only));at_builtin;refine Kd.R_append Kd.string (w0:=w) w.heap.size rfl (.tmp 65) (.tmp 66) 52 9 (.string ⟨#[]⟩) 16 rfl Tryd.underlying52 info9 rfl (by decide) (by omega) u3 x3_3 (⟨#[]⟩ : ByteArray) [.string (⟨#[]⟩ : ByteArray)] (fun _ => True) (fun _ => False) rfl rfl ?aP (fun _ hk => hk.elim) ?aF ?aO ?aB ?aS ?aL ?_;(case aP => exact rfl);(case aB => exact (by repeat (first|(with_reducible first|exact HB.out|apply below_alloc|apply pw_below_drewN|apply below_drew1)|exact HB.out)));(case aF => exact (fun _ _ => trivial));(case aO => exact (by (with_reducible repeat (first|apply Kd.R_alloc|apply Kd.R_drewN|apply Kd.R_drew));exact HO_3.out));(case aS => exact (below_size (by repeat (first|(with_reducible first|exact HB.out|apply below_alloc|apply pw_below_drewN|apply below_drew1)|exact HB.out))));(case aL => have:=LMc39.out;omega);intro v239 w40 ho hb hg hat;rw [← Ny238.out] at ho;have n0_:=Aside0.mk (hb);have n1_:=Aside0.mk (ho);clear HB;clear HO_3;have HB:=n0_;have HO240:=n1_;clear n0_ n1_;clear ho hb hg hat))
                    go_roundg kj22
                    case measure => have:=HJ1.out;have:=HJ5.out;have:=HK3.out;have:=HJ9.out;have:=HJ22.out;omega
                    case rel => exact ⟨(y238),((wrap64 (x5_3 + 1))),(wrap64 (x5_3 + 1)),(by first|rfl|(simp;done)|(simp [*];done)),(by first|rfl|(simp;done)|(simp [*];done)),H',⟨by have:=HJ1.out;have:=HJ5.out;have:=HK3.out;have:=HJ9.out;have:=HJ22.out;omega⟩,⟨by (with_reducible repeat (first|apply Kd.R_alloc|apply Kd.R_drewN|apply Kd.R_drew));exact HO240.out⟩,⟨by repeat (first|(with_reducible first|exact HB.out|apply below_alloc|apply pw_below_drewN|apply below_drew1)|exact HB.out)⟩⟩
                   ·rw [if_neg c39] at H
                    exact absurd H (by simp)
                  ·rw [if_neg c38] at H
                   have c38b0 : (x5_3 == (x0_5.size : Int)) = false:=beq_eq_false_iff_ne.mpr c38
                   have c38b1 : (x5_3 != (x0_5.size : Int)) = true:=bne_iff_ne.mpr c38
                   have H':=Aside0.mk H
                   clear H
                   go_wp2
                   go_roundg kj22
                   case measure => have:=HJ1.out;have:=HJ5.out;have:=HK3.out;have:=HJ9.out;have:=HJ22.out;omega
                   case rel => exact ⟨(x3_3),((wrap64 (x5_3 + 1))),(wrap64 (x5_3 + 1)),(by first|rfl|(simp;done)|(simp [*];done)),(by first|rfl|(simp;done)|(simp [*];done)),H',⟨by have:=HJ1.out;have:=HJ5.out;have:=HK3.out;have:=HJ9.out;have:=HJ22.out;omega⟩,⟨by (with_reducible repeat (first|apply Kd.R_alloc|apply Kd.R_drewN|apply Kd.R_drew));exact HO_3.out⟩,⟨by repeat (first|(with_reducible first|exact HB.out|apply below_alloc|apply pw_below_drewN|apply below_drew1)|exact HB.out)⟩⟩
             ·rw [if_neg c17] at H
              exact absurd H (by simp)
            ·rw [if_neg c16] at H
             exact absurd H (by simp)
           ·rw [if_neg c15] at H
            exact absurd H (by simp)
       ·rw [if_neg c9] at H
        have c9b0 : decide (x5_3 ≤ (x0_5.size : Int)) = false:=decide_eq_false c9
        clear c9
        have H':=Aside0.mk H
        clear H
        go_wp2
        go_loopg [8,9] k3 (fun kq v8 v9 w' => ∃ (x8_4 : ByteArray) (x9_4 : Int),v8 = .string x8_4 ∧ v9 = .int .i64 x9_4 ∧ Aside0 (lockkeeperref4_Clean.l1 kq x3_3 x8_4 x9_4 = some r) ∧ Aside0 (kq ≤ k3) ∧ Aside0 (Kd.R Kd.string 9 w' w.heap.size (fun _ => True) u3 x3_3) ∧ Aside0 (Below w.heap.size w w'))
        case atStart => exact ⟨((⟨#[]⟩ : ByteArray)),(0),(by first|rfl|(simp;done)|(simp [*];done)),(by first|rfl|(simp;done)|(simp [*];done)),H',⟨Nat.le_refl _⟩,⟨by (with_reducible repeat (first|apply Kd.R_alloc|apply Kd.R_drewN|apply Kd.R_drew));exact HO_3.out⟩,⟨by repeat (first|(with_reducible first|exact HB.out|apply below_alloc|apply pw_below_drewN|apply below_drew1)|exact HB.out)⟩⟩
        case round =>
         clear H'
         try clear c1
         try clear p1
         try clear q1
         try clear hx1
         try clear c2
         try clear p2
         try clear c3
         try clear c3b0
         try clear c3b1
         try clear q3
         try clear c4
         try clear c4b0
         try clear c4b1
         try clear p5
         try clear q5
         try clear hx5
         try clear qi5
         try clear c6
         try clear p6
         try clear c7
         try clear c8
         try clear c8b0
         try clear c8b1
         try clear c8b2
         try clear c9
         try clear c9b0
         try clear c11
         try clear c11b0
         try clear c12
         try clear c12b0
         try clear p13
         try clear q13
         try clear hx13
         try clear c14
         try clear c15
         try clear c15b0
         try clear c15b1
         try clear c16
         try clear c16b0
         try clear c16b1
         try clear c17
         try clear c17b0
         try clear c17b1
         try clear c19
         try clear c19b0
         try clear c19b1
         try clear c20
         try clear c25
         try clear c25b0
         try clear c25b1
         try clear c27
         try clear c29
         try clear c29b0
         try clear c29b1
         try clear c30
         try clear c30b0
         try clear c30b1
         try clear c31
         try clear c31b0
         try clear c31b1
         try clear c32
         try clear q34
         try clear c37
         try clear q37
         try clear c38
         try clear c38b0
         try clear c38b1
         try clear c39
         try clear p1
         try clear p13
         try clear p2
         try clear p5
         try clear p6
         try clear q1
         try clear q13
         try clear q34
         try clear q37
         try clear q5
         obtain ⟨x8_4,x9_4,rfl,rfl,HA,HK4,HO_3,HB⟩:=hrel
         cases gk with
         | zero => exact absurd HA.out (by simp [lockkeeperref4_Clean.l1])
         | succ k4 =>
          have H:=HA.out
          clear HA
          simp only [lockkeeperref4_Clean.l1] at H
          by_cases c41 : x9_4 < (x3_3.length : Int)
          ·rw [if_pos c41] at H
           have c41b0 : decide (x9_4 < (x3_3.length : Int)) = true:=decide_eq_true c41
           clear c41
           by_cases c42 : x8_4.size + 1 ≤ 9223372036854775807
           ·rw [if_pos c42] at H
            have c42b0:=eq_true c42
            have c42b1 : decide (x8_4.size + 1 ≤ 9223372036854775807) = true:=decide_eq_true c42
            try have c42b2 : (9223372036854775807 < x8_4.size + 1) = False:=eq_false (Nat.not_lt.2 c42)
            by_cases c43 : 0 ≤ x9_4
            ·rw [if_pos c43] at H
             have c43b0 : decide (0 ≤ x9_4) = true:=decide_eq_true c43
             clear c43
             by_cases c44 : (x8_4 ++ (⟨#[47]⟩ : ByteArray)).size + (rdOf ByteArray.empty x3_3 x9_4).size ≤ 9223372036854775807
             ·rw [if_pos c44] at H
              try (have c44b5:=c44;simp only [ByteArray.size_append,Int.natCast_add] at c44b5)
              have c44b0:=eq_true c44
              have c44b1 : decide ((x8_4 ++ (⟨#[47]⟩ : ByteArray)).size + (rdOf ByteArray.empty x3_3 x9_4).size ≤ 9223372036854775807) = true:=decide_eq_true c44
              try have c44b2 : (9223372036854775807 < (x8_4 ++ (⟨#[47]⟩ : ByteArray)).size + (rdOf ByteArray.empty x3_3 x9_4).size) = False:=eq_false (Nat.not_lt.2 c44)
              try have c44b3 : (9223372036854775807 < x8_4.size + 1 + (rdOf ByteArray.empty x3_3 x9_4).size) = False:=eq_false (Nat.not_lt.2 (by have z_:=c44;simp only [ByteArray.size_append] at z_;first|exact z_|simpa using z_))
              have H':=Aside0.mk H
              clear H
              obtain ⟨Ao45,co45,eo45⟩:=Kd.R_slice HO_3.out
              subst eo45
              have p241 : 0 ≤ (x9_4 : Int):=of_decide_eq_true (by first|(with_reducible assumption)|assumption)
              have q241 : x9_4 < (x3_3.length : Int):=of_decide_eq_true (by first|(with_reducible assumption)|assumption)
              obtain ⟨ad241,e241,hx241_0⟩:=Kd.at_string (Kd.R_reads' HO_3.out).2.2 x9_4 p241 q241
              cases e241
              replace p241:=eq_true p241
              replace q241:=eq_true q241
              go_wp2
              go_roundg k4
              case measure => have:=HJ1.out;have:=HJ5.out;have:=HK3.out;have:=HK4.out;omega
              case rel => exact ⟨((x8_4 ++ (⟨#[47]⟩ : ByteArray)) ++ (rdOf ByteArray.empty x3_3 x9_4)),(wrap64 (x9_4 + 1)),(by first|rfl|(simp;done)|(simp [*];done)),(by first|rfl|(simp;done)|(simp [*];done)),H',⟨by have:=HJ1.out;have:=HJ5.out;have:=HK3.out;have:=HK4.out;omega⟩,⟨by (with_reducible repeat (first|apply Kd.R_alloc|apply Kd.R_drewN|apply Kd.R_drew));exact HO_3.out⟩,⟨by repeat (first|(with_reducible first|exact HB.out|apply below_alloc|apply pw_below_drewN|apply below_drew1)|exact HB.out)⟩⟩
             ·rw [if_neg c44] at H
              exact absurd H (by simp)
            ·rw [if_neg c43] at H
             exact absurd H (by simp)
           ·rw [if_neg c42] at H
            exact absurd H (by simp)
          ·rw [if_neg c41] at H
           have c41b0 : decide (x9_4 < (x3_3.length : Int)) = false:=decide_eq_false c41
           clear c41
           by_cases c46 : x8_4.toList = ([] : List UInt8)
           ·rw [if_pos c46] at H
            have c46b0 : (x8_4.toList == ([] : List UInt8)) = true:=beq_iff_eq.mpr c46
            have c46b1 : (x8_4.toList != ([] : List UInt8)) = false:=bne_eq_false_iff_eq.mpr c46
            clear c46
            obtain rfl:=Option.some.inj H
            obtain ⟨Ao47,co47,eo47⟩:=Kd.R_slice HO_3.out
            subst eo47
            go_wp2
            go_ret
            exact ⟨by first|rfl|(simp [errW_none,errW_some] <;> rfl)|(simp [*,errW_none,errW_some] <;> rfl),by repeat (first|(with_reducible first|exact HB.out|apply below_alloc|apply pw_below_drewN|apply below_drew1)|exact HB.out)⟩
           ·rw [if_neg c46] at H
            have c46b0 : (x8_4.toList == ([] : List UInt8)) = false:=beq_eq_false_iff_ne.mpr c46
            have c46b1 : (x8_4.toList != ([] : List UInt8)) = true:=bne_iff_ne.mpr c46
            obtain rfl:=Option.some.inj H
            obtain ⟨Ao48,co48,eo48⟩:=Kd.R_slice HO_3.out
            subst eo48
            go_wp2
            go_ret
            exact ⟨by first|rfl|(simp [errW_none,errW_some] <;> rfl)|(simp [*,errW_none,errW_some] <;> rfl),by repeat (first|(with_reducible first|exact HB.out|apply below_alloc|apply pw_below_drewN|apply below_drew1)|exact HB.out)⟩

/-! ### lockkeeperref1_In: function 43 -/
def lockkeeperref1_In.l0 : Nat → Int → ByteArray → Int → Option (Bool)
 | 0,_,_,_ => none
 | k + 1,x0,x1,x5 => if x5 < (x1.size : Int) then (if 0 ≤ x5 then (if (bt x1 x5) = x0 then (some true) else (lockkeeperref1_In.l0 k x0 x1 (wrap64 (x5 + 1)))) else (none)) else (some false)
def lockkeeperref1_In.f (k : Nat) (a0 : Int) (a1 : ByteArray) : Option (Bool):=lockkeeperref1_In.l0 k a0 a1 0
theorem lockkeeperref1_In.mono_l : ∀ k,(∀ y0 y1 y2,LeO (lockkeeperref1_In.l0 k y0 y1 y2) (lockkeeperref1_In.l0 (k + 1) y0 y1 y2))
 | 0 => fun _ _ _ r h => by simp [lockkeeperref1_In.l0] at h
 | k + 1 => by
  have ih0:=lockkeeperref1_In.mono_l k
  ·intro y0 y1 y2
   unfold lockkeeperref1_In.l0
   repeat' first
   | (with_reducible exact ih0 _ _ _)
   | (with_reducible exact LeO.refl _)
   | (with_reducible exact LeO.none _)
   | (with_reducible refine LeO.ite ?_ ?_)
   | (with_reducible refine LeO.bind ?_ (fun _ => ?_))
   | exact ih0 _ _ _
   | exact LeO.none _
   | refine LeO.ite ?_ ?_
   | refine LeO.bind ?_ (fun _ => ?_)
theorem lockkeeperref1_In.mono : ∀ a0 a1 k,LeO (lockkeeperref1_In.f k a0 a1) (lockkeeperref1_In.f (k + 1) a0 a1):=by
 intro a0 a1 k
 have ih0:=lockkeeperref1_In.mono_l k
 unfold lockkeeperref1_In.f
 repeat' first
   | (with_reducible exact ih0 _ _ _)
   | (with_reducible exact LeO.refl _)
   | (with_reducible exact LeO.none _)
   | (with_reducible refine LeO.ite ?_ ?_)
   | (with_reducible refine LeO.bind ?_ (fun _ => ?_))
   | exact ih0 _ _ _
   | exact LeO.none _
   | refine LeO.ite ?_ ?_
   | refine LeO.bind ?_ (fun _ => ?_)
set_option maxHeartbeats 8000000 in
set_option maxRecDepth 100000 in
theorem lockkeeperref1_In.calls (k : Nat) (a0 : Int) (a1 : ByteArray) (r : Bool) (w : World) (h : lockkeeperref1_In.f k a0 a1 = some r) :
  Calls Tryd.prog 43 #[.int .u8 a0,.string a1] w fun e w' => e = .returned (.bool r) ∧ Drawn0 w w':=by
 have H : (lockkeeperref1_In.l0 k a0 a1 0) = some r:=h
 clear h
 have H':=Aside0.mk H
 clear H
 go_enter Tryd.func43,Tryd.ntmps43
 go_wp2
 go_loopg [5] k (fun kq v5 w' => ∃ (x5_1 : Int),v5 = .int .i64 x5_1 ∧ Aside0 (lockkeeperref1_In.l0 kq a0 a1 x5_1 = some r) ∧ Aside0 (kq ≤ k) ∧ Drawn0 w w')
 case atStart => exact ⟨(0),(by first|rfl|(simp;done)|(simp [*];done)),H',⟨Nat.le_refl _⟩,by repeat (first|exact Drawn0.refl _|apply Drawn0.step)⟩
 case round =>
  clear H'
  try clear p2
  obtain ⟨x5_1,rfl,HA,HK1,⟨m1,rfl⟩⟩:=hrel
  cases gk with
  | zero => exact absurd HA.out (by simp [lockkeeperref1_In.l0])
  | succ k1 =>
   have H:=HA.out
   clear HA
   simp only [lockkeeperref1_In.l0] at H
   by_cases c3 : x5_1 < (a1.size : Int)
   ·rw [if_pos c3] at H
    have c3b0 : decide (x5_1 < (a1.size : Int)) = true:=decide_eq_true c3
    clear c3
    by_cases c4 : 0 ≤ x5_1
    ·rw [if_pos c4] at H
     have c4b0 : decide (0 ≤ x5_1) = true:=decide_eq_true c4
     clear c4
     by_cases c6 : (bt a1 x5_1) = a0
     ·rw [if_pos c6] at H
      have c6b0 : ((bt a1 x5_1) == a0) = true:=beq_iff_eq.mpr c6
      have c6b1 : ((bt a1 x5_1) != a0) = false:=bne_eq_false_iff_eq.mpr c6
      clear c6
      obtain rfl:=Option.some.inj H
      have p5 : 0 ≤ (x5_1 : Int):=of_decide_eq_true (by first|(with_reducible assumption)|assumption)
      have q5 : x5_1 < (a1.size : Int):=of_decide_eq_true (by first|(with_reducible assumption)|assumption)
      have hx5:=bt_at a1 x5_1
      replace p5:=eq_true p5
      replace q5:=eq_true q5
      go_wp2
      go_ret
      exact ⟨by first|rfl|(simp;done)|(simp [*];done),by repeat (first|exact Drawn0.refl _|apply Drawn0.step)⟩
     ·rw [if_neg c6] at H
      have c6b0 : ((bt a1 x5_1) == a0) = false:=beq_eq_false_iff_ne.mpr c6
      have c6b1 : ((bt a1 x5_1) != a0) = true:=bne_iff_ne.mpr c6
      have H':=Aside0.mk H
      clear H
      have p5 : 0 ≤ (x5_1 : Int):=of_decide_eq_true (by first|(with_reducible assumption)|assumption)
      have q5 : x5_1 < (a1.size : Int):=of_decide_eq_true (by first|(with_reducible assumption)|assumption)
      have hx5:=bt_at a1 x5_1
      replace p5:=eq_true p5
      replace q5:=eq_true q5
      go_wp2
      go_roundg k1
      case measure => have:=HK1.out;omega
      case rel => exact ⟨(wrap64 (x5_1 + 1)),(by first|rfl|(simp;done)|(simp [*];done)),H',⟨by have:=HK1.out;omega⟩,by repeat (first|exact Drawn0.refl _|apply Drawn0.step)⟩
    ·rw [if_neg c4] at H
     exact absurd H (by simp)
   ·rw [if_neg c3] at H
    have c3b0 : decide (x5_1 < (a1.size : Int)) = false:=decide_eq_false c3
    clear c3
    obtain rfl:=Option.some.inj H
    go_wp2
    go_ret
    exact ⟨by first|rfl|(simp;done)|(simp [*];done),by repeat (first|exact Drawn0.refl _|apply Drawn0.step)⟩

/-! ### lockkeeperref4_first: function 55 -/
def lockkeeperref4_first.l0 : Nat → ByteArray → ByteArray → Int → Option (Int)
 | 0,_,_,_ => none
 | k + 1,x0,x2,x7 => if x7 < (x0.size : Int) then (if 0 ≤ x7 then ((lockkeeperref1_In.f k (bt x0 x7) x2).bind fun t242 => (if t242 = true then (some x7) else (lockkeeperref4_first.l0 k x0 x2 (wrap64 (x7 + 1))))) else (none)) else (some x7)
def lockkeeperref4_first.f (k : Nat) (a0 : ByteArray) (a1 : Int) (a2 : ByteArray) : Option (Int):=lockkeeperref4_first.l0 k a0 a2 a1
theorem lockkeeperref4_first.mono_l : ∀ k,(∀ y0 y1 y2,LeO (lockkeeperref4_first.l0 k y0 y1 y2) (lockkeeperref4_first.l0 (k + 1) y0 y1 y2))
 | 0 => fun _ _ _ r h => by simp [lockkeeperref4_first.l0] at h
 | k + 1 => by
  have ih0:=lockkeeperref4_first.mono_l k
  ·intro y0 y1 y2
   unfold lockkeeperref4_first.l0
   repeat' first
   | (with_reducible exact ih0 _ _ _)
   | (with_reducible exact lockkeeperref1_In.mono _ _ _)
   | (with_reducible exact LeO.refl _)
   | (with_reducible exact LeO.none _)
   | (with_reducible refine LeO.ite ?_ ?_)
   | (with_reducible refine LeO.bind ?_ (fun _ => ?_))
   | exact ih0 _ _ _
   | exact lockkeeperref1_In.mono _ _ _
   | exact LeO.none _
   | refine LeO.ite ?_ ?_
   | refine LeO.bind ?_ (fun _ => ?_)
theorem lockkeeperref4_first.mono : ∀ a0 a1 a2 k,LeO (lockkeeperref4_first.f k a0 a1 a2) (lockkeeperref4_first.f (k + 1) a0 a1 a2):=by
 intro a0 a1 a2 k
 have ih0:=lockkeeperref4_first.mono_l k
 unfold lockkeeperref4_first.f
 repeat' first
   | (with_reducible exact ih0 _ _ _)
   | (with_reducible exact lockkeeperref1_In.mono _ _ _)
   | (with_reducible exact LeO.refl _)
   | (with_reducible exact LeO.none _)
   | (with_reducible refine LeO.ite ?_ ?_)
   | (with_reducible refine LeO.bind ?_ (fun _ => ?_))
   | exact ih0 _ _ _
   | exact lockkeeperref1_In.mono _ _ _
   | exact LeO.none _
   | refine LeO.ite ?_ ?_
   | refine LeO.bind ?_ (fun _ => ?_)
set_option maxHeartbeats 8000000 in
set_option maxRecDepth 100000 in
theorem lockkeeperref4_first.calls (k : Nat) (a0 : ByteArray) (a1 : Int) (a2 : ByteArray) (r : Int) (w : World) (h : lockkeeperref4_first.f k a0 a1 a2 = some r) :
  Calls Tryd.prog 55 #[.string a0,.int .i64 a1,.string a2] w fun e w' => e = .returned (.int .i64 r) ∧ Drawn0 w w':=by
 have H : (lockkeeperref4_first.l0 k a0 a2 a1) = some r:=h
 clear h
 have H':=Aside0.mk H
 clear H
 go_enter Tryd.func55,Tryd.ntmps55
 go_wp2
 go_loopg [7] k (fun kq v7 w' => ∃ (x7_1 : Int),v7 = .int .i64 x7_1 ∧ Aside0 (lockkeeperref4_first.l0 kq a0 a2 x7_1 = some r) ∧ Aside0 (kq ≤ k) ∧ Drawn0 w w')
 case atStart => exact ⟨(a1),(by first|rfl|(simp;done)|(simp [*];done)),H',⟨Nat.le_refl _⟩,by repeat (first|exact Drawn0.refl _|apply Drawn0.step)⟩
 case round =>
  clear H'
  try clear p2
  obtain ⟨x7_1,rfl,HA,HK1,⟨m1,rfl⟩⟩:=hrel
  cases gk with
  | zero => exact absurd HA.out (by simp [lockkeeperref4_first.l0])
  | succ k1 =>
   have H:=HA.out
   clear HA
   simp only [lockkeeperref4_first.l0] at H
   by_cases c4 : x7_1 < (a0.size : Int)
   ·rw [if_pos c4] at H
    have c4b0 : decide (x7_1 < (a0.size : Int)) = true:=decide_eq_true c4
    clear c4
    by_cases c5 : 0 ≤ x7_1
    ·rw [if_pos c5] at H
     have c5b0 : decide (0 ≤ x7_1) = true:=decide_eq_true c5
     clear c5
     replace H:=Option.bind_eq_some_iff.mp H
     obtain ⟨t242,A70,H⟩:=H
     replace H : (if t242 = true then (some x7_1) else (lockkeeperref4_first.l0 k1 a0 a2 (wrap64 (x7_1 + 1)))) = some r:=H
     have A7:=Aside0.mk A70
     clear A70
     by_cases c8 : t242 = true
     ·subst c8
      have H1 : (some x7_1) = some r:=by rw [if_pos rfl] at H;exact H
      clear H
      have H:=H1
      clear H1
      obtain rfl:=Option.some.inj H
      have p6 : 0 ≤ (x7_1 : Int):=of_decide_eq_true (by first|(with_reducible assumption)|assumption)
      have q6 : x7_1 < (a0.size : Int):=of_decide_eq_true (by first|(with_reducible assumption)|assumption)
      have hx6:=bt_at a0 x7_1
      replace p6:=eq_true p6
      replace q6:=eq_true q6
      go_wp2_with (first|(go_at_call 43;(with_reducible refine (lockkeeperref1_In.calls k1 (bt a0 x7_1) a2 true _ A7.out).mono ?_);rintro e w' ⟨rfl,⟨nd,rfl⟩⟩))
      go_ret
      exact ⟨by first|rfl|(simp;done)|(simp [*];done),by repeat (first|exact Drawn0.refl _|apply Drawn0.step)⟩
     ·replace c8:=Bool.eq_false_iff.mpr c8
      subst c8
      have H1 : (lockkeeperref4_first.l0 k1 a0 a2 (wrap64 (x7_1 + 1))) = some r:=by rw [if_neg (show ¬ (false = true) by decide)] at H;exact H
      clear H
      have H:=H1
      clear H1
      have H':=Aside0.mk H
      clear H
      have p6 : 0 ≤ (x7_1 : Int):=of_decide_eq_true (by first|(with_reducible assumption)|assumption)
      have q6 : x7_1 < (a0.size : Int):=of_decide_eq_true (by first|(with_reducible assumption)|assumption)
      have hx6:=bt_at a0 x7_1
      replace p6:=eq_true p6
      replace q6:=eq_true q6
      go_wp2_with (first|(go_at_call 43;(with_reducible refine (lockkeeperref1_In.calls k1 (bt a0 x7_1) a2 false _ A7.out).mono ?_);rintro e w' ⟨rfl,⟨nd,rfl⟩⟩))
      go_roundg k1
      case measure => have:=HK1.out;omega
      case rel => exact ⟨(wrap64 (x7_1 + 1)),(by first|rfl|(simp;done)|(simp [*];done)),H',⟨by have:=HK1.out;omega⟩,by repeat (first|exact Drawn0.refl _|apply Drawn0.step)⟩
    ·rw [if_neg c5] at H
     exact absurd H (by simp)
   ·rw [if_neg c4] at H
    have c4b0 : decide (x7_1 < (a0.size : Int)) = false:=decide_eq_false c4
    clear c4
    obtain rfl:=Option.some.inj H
    go_wp2
    go_ret
    exact ⟨by first|rfl|(simp;done)|(simp [*];done),by repeat (first|exact Drawn0.refl _|apply Drawn0.step)⟩

/-! ### lockkeeperref4_byteOf: function 75 -/
def lockkeeperref4_byteOf.f (k : Nat) (a0 : Int) (a1 : ByteArray) : Option (Bool):=if a0 ≥ 33 then (if a0 ≤ 126 then ((lockkeeperref1_In.f k a0 a1).bind fun t243 => (some (!t243))) else (some false)) else (some false)
theorem lockkeeperref4_byteOf.mono : ∀ a0 a1 k,LeO (lockkeeperref4_byteOf.f k a0 a1) (lockkeeperref4_byteOf.f (k + 1) a0 a1):=by
 intro a0 a1 k
 unfold lockkeeperref4_byteOf.f
 repeat' first
   | (with_reducible exact lockkeeperref1_In.mono _ _ _)
   | (with_reducible exact LeO.refl _)
   | (with_reducible exact LeO.none _)
   | (with_reducible refine LeO.ite ?_ ?_)
   | (with_reducible refine LeO.bind ?_ (fun _ => ?_))
   | exact lockkeeperref1_In.mono _ _ _
   | exact LeO.none _
   | refine LeO.ite ?_ ?_
   | refine LeO.bind ?_ (fun _ => ?_)
set_option maxHeartbeats 8000000 in
set_option maxRecDepth 100000 in
theorem lockkeeperref4_byteOf.calls (k : Nat) (a0 : Int) (a1 : ByteArray) (r : Bool) (w : World) (h : lockkeeperref4_byteOf.f k a0 a1 = some r) :
  Calls Tryd.prog 75 #[.int .u8 a0,.string a1] w fun e w' => e = .returned (.bool r) ∧ Drawn0 w w':=by
 have H : (if a0 ≥ 33 then (if a0 ≤ 126 then ((lockkeeperref1_In.f k a0 a1).bind fun t243 => (some (!t243))) else (some false)) else (some false)) = some r:=h
 clear h
 by_cases c3 : a0 ≥ 33
 ·rw [if_pos c3] at H
  have c3b0 : decide (33 ≤ a0) = true:=decide_eq_true c3
  clear c3
  by_cases c4 : a0 ≤ 126
  ·rw [if_pos c4] at H
   have c4b0 : decide (a0 ≤ 126) = true:=decide_eq_true c4
   clear c4
   replace H:=Option.bind_eq_some_iff.mp H
   obtain ⟨t243,A50,H⟩:=H
   replace H : (some (!t243)) = some r:=H
   have A5:=Aside0.mk A50
   clear A50
   obtain rfl:=Option.some.inj H
   go_enter Tryd.func75,Tryd.ntmps75
   go_wp2_with (first|(go_at_call 43;(with_reducible refine (lockkeeperref1_In.calls k a0 a1 t243 _ A5.out).mono ?_);rintro e w' ⟨rfl,⟨nd,rfl⟩⟩))
   go_ret
   exact ⟨by first|rfl|(simp;done)|(simp [*];done),by repeat (first|exact Drawn0.refl _|apply Drawn0.step)⟩
  ·rw [if_neg c4] at H
   have c4b0 : decide (a0 ≤ 126) = false:=decide_eq_false c4
   clear c4
   obtain rfl:=Option.some.inj H
   go_enter Tryd.func75,Tryd.ntmps75
   go_wp2
   go_ret
   exact ⟨by first|rfl|(simp;done)|(simp [*];done),by repeat (first|exact Drawn0.refl _|apply Drawn0.step)⟩
 ·rw [if_neg c3] at H
  have c3b0 : decide (33 ≤ a0) = false:=decide_eq_false c3
  clear c3
  obtain rfl:=Option.some.inj H
  go_enter Tryd.func75,Tryd.ntmps75
  go_wp2
  go_ret
  exact ⟨by first|rfl|(simp;done)|(simp [*];done),by repeat (first|exact Drawn0.refl _|apply Drawn0.step)⟩

/-! ### lockkeeperref4_pathByte: function 56 -/
def lockkeeperref4_pathByte.f (k : Nat) (a0 : Int) : Option (Bool):=(lockkeeperref4_byteOf.f k a0 (⟨#[34,35,60,62,63,92,94,123,124,125]⟩ : ByteArray)).bind fun t244 => (if t244 = true then (some (a0 != 96)) else (some false))
theorem lockkeeperref4_pathByte.mono : ∀ a0 k,LeO (lockkeeperref4_pathByte.f k a0) (lockkeeperref4_pathByte.f (k + 1) a0):=by
 intro a0 k
 unfold lockkeeperref4_pathByte.f
 repeat' first
   | (with_reducible exact lockkeeperref4_byteOf.mono _ _ _)
   | (with_reducible exact LeO.refl _)
   | (with_reducible exact LeO.none _)
   | (with_reducible refine LeO.ite ?_ ?_)
   | (with_reducible refine LeO.bind ?_ (fun _ => ?_))
   | exact lockkeeperref4_byteOf.mono _ _ _
   | exact LeO.none _
   | refine LeO.ite ?_ ?_
   | refine LeO.bind ?_ (fun _ => ?_)
set_option maxHeartbeats 8000000 in
set_option maxRecDepth 100000 in
theorem lockkeeperref4_pathByte.calls (k : Nat) (a0 : Int) (r : Bool) (w : World) (h : lockkeeperref4_pathByte.f k a0 = some r) :
  Calls Tryd.prog 56 #[.int .u8 a0] w fun e w' => e = .returned (.bool r) ∧ Drawn0 w w':=by
 have H : ((lockkeeperref4_byteOf.f k a0 (⟨#[34,35,60,62,63,92,94,123,124,125]⟩ : ByteArray)).bind fun t244 => (if t244 = true then (some (a0 != 96)) else (some false))) = some r:=h
 clear h
 replace H:=Option.bind_eq_some_iff.mp H
 obtain ⟨t244,A20,H⟩:=H
 replace H : (if t244 = true then (some (a0 != 96)) else (some false)) = some r:=H
 have A2:=Aside0.mk A20
 clear A20
 by_cases c3 : t244 = true
 ·subst c3
  have H1 : (some (a0 != 96)) = some r:=by rw [if_pos rfl] at H;exact H
  clear H
  have H:=H1
  clear H1
  obtain rfl:=Option.some.inj H
  go_enter Tryd.func56,Tryd.ntmps56
  go_wp2_with (first|((with_reducible refine gate_callee (f:=75) rfl ?_);refine goesL_ (some 4) rfl rfl Tryd.func75 (by kernel_rfl) rfl #[.int .u8 a0,.string (⟨#[34,35,60,62,63,92,94,123,124,125]⟩ : ByteArray)] rfl (by (try simp only [List.map_toArray,List.map_cons,List.map_nil]);first|done|rfl|(simp only [List.length_drop,List.length_take];rfl)) ?_;(with_reducible refine (lockkeeperref4_byteOf.calls k a0 (⟨#[34,35,60,62,63,92,94,123,124,125]⟩ : ByteArray) true _ A2.out).mono ?_);rintro e w' ⟨rfl,⟨nd,rfl⟩⟩;refine ⟨_,rfl,?_⟩))
  go_ret
  exact ⟨by first|rfl|(simp;done)|(simp [*];done),by repeat (first|exact Drawn0.refl _|apply Drawn0.step)⟩
 ·replace c3:=Bool.eq_false_iff.mpr c3
  subst c3
  have H1 : (some false) = some r:=by rw [if_neg (show ¬ (false = true) by decide)] at H;exact H
  clear H
  have H:=H1
  clear H1
  obtain rfl:=Option.some.inj H
  go_enter Tryd.func56,Tryd.ntmps56
  go_wp2_with (first|((with_reducible refine gate_callee (f:=75) rfl ?_);refine goesL_ (some 4) rfl rfl Tryd.func75 (by kernel_rfl) rfl #[.int .u8 a0,.string (⟨#[34,35,60,62,63,92,94,123,124,125]⟩ : ByteArray)] rfl (by (try simp only [List.map_toArray,List.map_cons,List.map_nil]);first|done|rfl|(simp only [List.length_drop,List.length_take];rfl)) ?_;(with_reducible refine (lockkeeperref4_byteOf.calls k a0 (⟨#[34,35,60,62,63,92,94,123,124,125]⟩ : ByteArray) false _ A2.out).mono ?_);rintro e w' ⟨rfl,⟨nd,rfl⟩⟩;refine ⟨_,rfl,?_⟩))
  go_ret
  exact ⟨by first|rfl|(simp;done)|(simp [*];done),by repeat (first|exact Drawn0.refl _|apply Drawn0.step)⟩

/-! ### lockkeeperref4_queryByte: function 57 -/
def lockkeeperref4_queryByte.f (k : Nat) (a0 : Int) : Option (Bool):=(lockkeeperref4_byteOf.f k a0 (⟨#[34,35,60,62]⟩ : ByteArray)).bind fun t245 => (some t245)
theorem lockkeeperref4_queryByte.mono : ∀ a0 k,LeO (lockkeeperref4_queryByte.f k a0) (lockkeeperref4_queryByte.f (k + 1) a0):=by
 intro a0 k
 unfold lockkeeperref4_queryByte.f
 repeat' first
   | (with_reducible exact lockkeeperref4_byteOf.mono _ _ _)
   | (with_reducible exact LeO.refl _)
   | (with_reducible exact LeO.none _)
   | (with_reducible refine LeO.ite ?_ ?_)
   | (with_reducible refine LeO.bind ?_ (fun _ => ?_))
   | exact lockkeeperref4_byteOf.mono _ _ _
   | exact LeO.none _
   | refine LeO.ite ?_ ?_
   | refine LeO.bind ?_ (fun _ => ?_)
set_option maxHeartbeats 8000000 in
set_option maxRecDepth 100000 in
theorem lockkeeperref4_queryByte.calls (k : Nat) (a0 : Int) (r : Bool) (w : World) (h : lockkeeperref4_queryByte.f k a0 = some r) :
  Calls Tryd.prog 57 #[.int .u8 a0] w fun e w' => e = .returned (.bool r) ∧ Drawn0 w w':=by
 have H : ((lockkeeperref4_byteOf.f k a0 (⟨#[34,35,60,62]⟩ : ByteArray)).bind fun t245 => (some t245)) = some r:=h
 clear h
 replace H:=Option.bind_eq_some_iff.mp H
 obtain ⟨t245,A20,H⟩:=H
 replace H : (some t245) = some r:=H
 have A2:=Aside0.mk A20
 clear A20
 obtain rfl:=Option.some.inj H
 go_enter Tryd.func57,Tryd.ntmps57
 go_wp2_with (first|((with_reducible refine gate_callee (f:=75) rfl ?_);refine goesL_ (some 4) rfl rfl Tryd.func75 (by kernel_rfl) rfl #[.int .u8 a0,.string (⟨#[34,35,60,62]⟩ : ByteArray)] rfl (by (try simp only [List.map_toArray,List.map_cons,List.map_nil]);first|done|rfl|(simp only [List.length_drop,List.length_take];rfl)) ?_;(with_reducible refine (lockkeeperref4_byteOf.calls k a0 (⟨#[34,35,60,62]⟩ : ByteArray) t245 _ A2.out).mono ?_);rintro e w' ⟨rfl,⟨nd,rfl⟩⟩;refine ⟨_,rfl,?_⟩))
 go_ret
 exact ⟨by first|rfl|(simp;done)|(simp [*];done),by repeat (first|exact Drawn0.refl _|apply Drawn0.step)⟩

end Go.Proofs.YtbfbidifodcedaaDoor.Pr
