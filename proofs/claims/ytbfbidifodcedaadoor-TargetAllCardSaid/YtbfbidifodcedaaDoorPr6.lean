-- Made by a program of this session (wip/xp/xp.py), over the print's words.
import Derived.Test.YtbfbidifodcedaaDoorPr0
import Derived.Test.YtbfbidifodcedaaDoorPr5
namespace Go.Proofs.YtbfbidifodcedaaDoor.Pr
open Go.RowKit Go.Proofs.YtbfbidifodcedaaDoorW.PrintWords Go.Proofs.YtbfbidifodcedaaDoorW.PrintLast Go.Proofs.YtbfbidifodcedaaDoorW.PrintMore
attribute [local go_sem] max2_int min2_int max_two min_two max_three min_three max_four min_four   -- for this text's walks alone
set_option linter.unusedVariables false
set_option linter.unusedSimpArgs false

/-! ### lockkeeperref3_host: function 50 -/
mutual
def lockkeeperref3_host.l0 : Nat → ByteArray → Int → Int → Option (Bool)
 | 0,_,_,_ => none
 | k + 1,x0,x3,x4 => if x4 ≤ (x0.size : Int) then (if x4 < (x0.size : Int) then (if 0 ≤ x4 then (lockkeeperref3_host.j1 k x0 x3 x4 ((bt x0 x4) != 46)) else (none)) else (lockkeeperref3_host.j1 k x0 x3 x4 false)) else (some true)
def lockkeeperref3_host.j1 : Nat → ByteArray → Int → Int → Bool → Option (Bool)
 | 0,_,_,_,_ => none
 | k + 1,x0,x3,x4,x24 => if x24 = true then (if 0 ≤ x4 then (if x4 < (x0.size : Int) then (if (bt x0 x4) = 45 then (lockkeeperref3_host.j2 k x0 x3 x4 false) else (if (bt x0 x4) < 97 then (if (bt x0 x4) < 48 then (lockkeeperref3_host.j2 k x0 x3 x4 true) else (lockkeeperref3_host.j2 k x0 x3 x4 (decide ((bt x0 x4) > 57)))) else (if (bt x0 x4) > 122 then (if (bt x0 x4) < 48 then (lockkeeperref3_host.j2 k x0 x3 x4 true) else (lockkeeperref3_host.j2 k x0 x3 x4 (decide ((bt x0 x4) > 57)))) else (lockkeeperref3_host.j2 k x0 x3 x4 false)))) else (none)) else (none)) else (if (wrap64 (x4 - x3)) < 1 then (some false) else (if (wrap64 (x4 - x3)) > 63 then (some false) else (if 0 ≤ x3 then (if x3 < (x0.size : Int) then (if (bt x0 x3) = 45 then (some false) else (if 0 ≤ (wrap64 (x4 - 1)) then (if (wrap64 (x4 - 1)) < (x0.size : Int) then (if (bt x0 (wrap64 (x4 - 1))) = 45 then (some false) else (lockkeeperref3_host.l0 k x0 (wrap64 (x4 + 1)) (wrap64 (x4 + 1)))) else (none)) else (none))) else (none)) else (none))))
def lockkeeperref3_host.j2 : Nat → ByteArray → Int → Int → Bool → Option (Bool)
 | 0,_,_,_,_ => none
 | k + 1,x0,x3,x4,x45 => if x45 = true then (some false) else (lockkeeperref3_host.l0 k x0 x3 (wrap64 (x4 + 1)))
end
def lockkeeperref3_host.f (k : Nat) (a0 : ByteArray) : Option (Bool):=if (a0.size : Int) > 253 then (some false) else (lockkeeperref3_host.l0 k a0 0 0)
theorem lockkeeperref3_host.mono_l : ∀ k,(∀ y0 y1 y2,LeO (lockkeeperref3_host.l0 k y0 y1 y2) (lockkeeperref3_host.l0 (k + 1) y0 y1 y2)) ∧ (∀ y0 y1 y2 y3,LeO (lockkeeperref3_host.j1 k y0 y1 y2 y3) (lockkeeperref3_host.j1 (k + 1) y0 y1 y2 y3)) ∧ (∀ y0 y1 y2 y3,LeO (lockkeeperref3_host.j2 k y0 y1 y2 y3) (lockkeeperref3_host.j2 (k + 1) y0 y1 y2 y3))
 | 0 => ⟨fun _ _ _ r h => by simp [lockkeeperref3_host.l0] at h,fun _ _ _ _ r h => by simp [lockkeeperref3_host.j1] at h,fun _ _ _ _ r h => by simp [lockkeeperref3_host.j2] at h⟩
 | k + 1 => by
  obtain ⟨ih0,ih1,ih2⟩:=lockkeeperref3_host.mono_l k
  refine ⟨?_,?_,?_⟩
  ·intro y0 y1 y2
   unfold lockkeeperref3_host.l0
   repeat' first
   | (with_reducible exact ih0 _ _ _)
   | (with_reducible exact ih1 _ _ _ _)
   | (with_reducible exact ih2 _ _ _ _)
   | (with_reducible exact LeO.refl _)
   | (with_reducible exact LeO.none _)
   | (with_reducible refine LeO.ite ?_ ?_)
   | (with_reducible refine LeO.bind ?_ (fun _ => ?_))
   | exact ih0 _ _ _
   | exact ih1 _ _ _ _
   | exact ih2 _ _ _ _
   | exact LeO.none _
   | refine LeO.ite ?_ ?_
   | refine LeO.bind ?_ (fun _ => ?_)
  ·intro y0 y1 y2 y3
   unfold lockkeeperref3_host.j1
   repeat' first
   | (with_reducible exact ih0 _ _ _)
   | (with_reducible exact ih1 _ _ _ _)
   | (with_reducible exact ih2 _ _ _ _)
   | (with_reducible exact LeO.refl _)
   | (with_reducible exact LeO.none _)
   | (with_reducible refine LeO.ite ?_ ?_)
   | (with_reducible refine LeO.bind ?_ (fun _ => ?_))
   | exact ih0 _ _ _
   | exact ih1 _ _ _ _
   | exact ih2 _ _ _ _
   | exact LeO.none _
   | refine LeO.ite ?_ ?_
   | refine LeO.bind ?_ (fun _ => ?_)
  ·intro y0 y1 y2 y3
   unfold lockkeeperref3_host.j2
   repeat' first
   | (with_reducible exact ih0 _ _ _)
   | (with_reducible exact ih1 _ _ _ _)
   | (with_reducible exact ih2 _ _ _ _)
   | (with_reducible exact LeO.refl _)
   | (with_reducible exact LeO.none _)
   | (with_reducible refine LeO.ite ?_ ?_)
   | (with_reducible refine LeO.bind ?_ (fun _ => ?_))
   | exact ih0 _ _ _
   | exact ih1 _ _ _ _
   | exact ih2 _ _ _ _
   | exact LeO.none _
   | refine LeO.ite ?_ ?_
   | refine LeO.bind ?_ (fun _ => ?_)
theorem lockkeeperref3_host.mono : ∀ a0 k,LeO (lockkeeperref3_host.f k a0) (lockkeeperref3_host.f (k + 1) a0):=by
 intro a0 k
 obtain ⟨ih0,ih1,ih2⟩:=lockkeeperref3_host.mono_l k
 unfold lockkeeperref3_host.f
 repeat' first
   | (with_reducible exact ih0 _ _ _)
   | (with_reducible exact ih1 _ _ _ _)
   | (with_reducible exact ih2 _ _ _ _)
   | (with_reducible exact LeO.refl _)
   | (with_reducible exact LeO.none _)
   | (with_reducible refine LeO.ite ?_ ?_)
   | (with_reducible refine LeO.bind ?_ (fun _ => ?_))
   | exact ih0 _ _ _
   | exact ih1 _ _ _ _
   | exact ih2 _ _ _ _
   | exact LeO.none _
   | refine LeO.ite ?_ ?_
   | refine LeO.bind ?_ (fun _ => ?_)
set_option maxHeartbeats 8000000 in
set_option maxRecDepth 100000 in
theorem lockkeeperref3_host.calls (k : Nat) (a0 : ByteArray) (r : Bool) (w : World) (h : lockkeeperref3_host.f k a0 = some r) :
  Calls Tryd.prog 50 #[.string a0] w fun e w' => e = .returned (.bool r) ∧ Drawn0 w w':=by
 have H : (if (a0.size : Int) > 253 then (some false) else (lockkeeperref3_host.l0 k a0 0 0)) = some r:=h
 clear h
 by_cases c2 : (a0.size : Int) > 253
 ·rw [if_pos c2] at H
  have c2b0 : decide (253 < (a0.size : Int)) = true:=decide_eq_true c2
  have c2b1 : decide (253 < a0.size) = true:=decide_eq_true (by omega)
  clear c2
  obtain rfl:=Option.some.inj H
  go_enter Tryd.func50,Tryd.ntmps50
  go_wp2
  go_ret
  exact ⟨by first|rfl|(simp;done)|(simp [*];done),by repeat (first|exact Drawn0.refl _|apply Drawn0.step)⟩
 ·rw [if_neg c2] at H
  have c2b0 : decide (253 < (a0.size : Int)) = false:=decide_eq_false c2
  have c2b1 : decide (253 < a0.size) = false:=decide_eq_false (by omega)
  clear c2
  have H':=Aside0.mk H
  clear H
  go_enter Tryd.func50,Tryd.ntmps50
  go_wp2
  go_loopg [3,4] k (fun kq v3 v4 w' => ∃ (x3_1 : Int) (x4_1 : Int),v3 = .int .i64 x3_1 ∧ v4 = .int .i64 x4_1 ∧ Aside0 (lockkeeperref3_host.l0 kq a0 x3_1 x4_1 = some r) ∧ Aside0 (kq ≤ k) ∧ Drawn0 w w')
  case atStart => exact ⟨(0),(0),(by first|rfl|(simp;done)|(simp [*];done)),(by first|rfl|(simp;done)|(simp [*];done)),H',⟨Nat.le_refl _⟩,by repeat (first|exact Drawn0.refl _|apply Drawn0.step)⟩
  case round =>
   clear H'
   try clear c2
   try clear c2b0
   try clear c2b1
   try clear p2
   obtain ⟨x3_1,x4_1,rfl,rfl,HA,HK1,⟨m1,rfl⟩⟩:=hrel
   cases gk with
   | zero => exact absurd HA.out (by simp [lockkeeperref3_host.l0])
   | succ k1 =>
    have H:=HA.out
    clear HA
    simp only [lockkeeperref3_host.l0] at H
    by_cases c3 : x4_1 ≤ (a0.size : Int)
    ·rw [if_pos c3] at H
     have c3b0 : decide (x4_1 ≤ (a0.size : Int)) = true:=decide_eq_true c3
     clear c3
     have HC4:=Aside0.mk H
     clear H
     go_upto_region 7 with (fail)
     go_cut [24] (fun v24 wc => ∃ (kq : Nat) (x24_3 : Bool),v24 = .bool x24_3 ∧ Aside0 (lockkeeperref3_host.j1 kq a0 x3_1 x4_1 x24_3 = some r) ∧ Aside0 (kq ≤ k1) ∧ Drawn0 w wc)
     case first =>
      have H:=HC4.out
      clear HC4
      by_cases c5 : x4_1 < (a0.size : Int)
      ·rw [if_pos c5] at H
       have c5b0 : decide (x4_1 < (a0.size : Int)) = true:=decide_eq_true c5
       clear c5
       (first|rw [c5b0]|(simp only [i64_w,i32_w];rw [c5b0])|skip)
       by_cases c6 : 0 ≤ x4_1
       ·rw [if_pos c6] at H
        have c6b0 : decide (0 ≤ x4_1) = true:=decide_eq_true c6
        clear c6
        have H':=Aside0.mk H
        clear H
        have p7 : 0 ≤ (x4_1 : Int):=of_decide_eq_true (by first|(with_reducible assumption)|assumption)
        have q7 : x4_1 < (a0.size : Int):=of_decide_eq_true (by first|(with_reducible assumption)|assumption)
        have hx7:=bt_at a0 x4_1
        replace p7:=eq_true p7
        replace q7:=eq_true q7
        go_wp2
        go_meet
        case rel => exact ⟨_,(((bt a0 x4_1) != 46)),(by first|rfl|(simp;done)|(simp [*];done)),H',⟨by have:=HK1.out;first|omega|exact Nat.le_refl _⟩,by repeat (first|exact Drawn0.refl _|apply Drawn0.step)⟩
       ·rw [if_neg c6] at H
        exact absurd H (by simp)
      ·rw [if_neg c5] at H
       have c5b0 : decide (x4_1 < (a0.size : Int)) = false:=decide_eq_false c5
       clear c5
       (first|rw [c5b0]|(simp only [i64_w,i32_w];rw [c5b0])|skip)
       have H':=Aside0.mk H
       clear H
       go_wp2
       go_meet
       case rel => exact ⟨_,(false),(by first|rfl|(simp;done)|(simp [*];done)),H',⟨by have:=HK1.out;first|omega|exact Nat.le_refl _⟩,by repeat (first|exact Drawn0.refl _|apply Drawn0.step)⟩
     case rest =>
      clear HC4
      try clear c2
      try clear c2b0
      try clear c2b1
      try clear p2
      try clear c3
      try clear c3b0
      try clear c5
      try clear c5b0
      try clear c6
      try clear c6b0
      try clear p7
      try clear q7
      try clear hx7
      try clear p2
      try clear p7
      try clear q7
      obtain ⟨kq,x24_3,rfl,HA,HJ3,⟨mc3,rfl⟩⟩:=hcut
      cases kq with
      | zero => exact absurd HA.out (by simp [lockkeeperref3_host.j1])
      | succ kj3 =>
       have H:=HA.out
       clear HA
       simp only [lockkeeperref3_host.j1] at H
       by_cases c8 : x24_3 = true
       ·subst c8
        have H1 : (if 0 ≤ x4_1 then (if x4_1 < (a0.size : Int) then (if (bt a0 x4_1) = 45 then (lockkeeperref3_host.j2 kj3 a0 x3_1 x4_1 false) else (if (bt a0 x4_1) < 97 then (if (bt a0 x4_1) < 48 then (lockkeeperref3_host.j2 kj3 a0 x3_1 x4_1 true) else (lockkeeperref3_host.j2 kj3 a0 x3_1 x4_1 (decide ((bt a0 x4_1) > 57)))) else (if (bt a0 x4_1) > 122 then (if (bt a0 x4_1) < 48 then (lockkeeperref3_host.j2 kj3 a0 x3_1 x4_1 true) else (lockkeeperref3_host.j2 kj3 a0 x3_1 x4_1 (decide ((bt a0 x4_1) > 57)))) else (lockkeeperref3_host.j2 kj3 a0 x3_1 x4_1 false)))) else (none)) else (none)) = some r:=by rw [if_pos rfl] at H;exact H
        clear H
        have H:=H1
        clear H1
        by_cases c9 : 0 ≤ x4_1
        ·rw [if_pos c9] at H
         have c9b0 : decide (0 ≤ x4_1) = true:=decide_eq_true c9
         clear c9
         by_cases c10 : x4_1 < (a0.size : Int)
         ·rw [if_pos c10] at H
          have c10b0 : decide (x4_1 < (a0.size : Int)) = true:=decide_eq_true c10
          clear c10
          have HC12:=Aside0.mk H
          clear H
          have p11 : 0 ≤ (x4_1 : Int):=of_decide_eq_true (by first|(with_reducible assumption)|assumption)
          have q11 : x4_1 < (a0.size : Int):=of_decide_eq_true (by first|(with_reducible assumption)|assumption)
          have hx11:=bt_at a0 x4_1
          replace p11:=eq_true p11
          replace q11:=eq_true q11
          go_upto_region 9 with (fail)
          go_cut [45] (fun v45 wc => ∃ (kq : Nat) (x45_11 : Bool),v45 = .bool x45_11 ∧ Aside0 (lockkeeperref3_host.j2 kq a0 x3_1 x4_1 x45_11 = some r) ∧ Aside0 (kq ≤ kj3) ∧ Drawn0 w wc)
          case first =>
           have H:=HC12.out
           clear HC12
           by_cases c13 : (bt a0 x4_1) = 45
           ·rw [if_pos c13] at H
            have c13b0 : ((bt a0 x4_1) == 45) = true:=beq_iff_eq.mpr c13
            have c13b1 : ((bt a0 x4_1) != 45) = false:=bne_eq_false_iff_eq.mpr c13
            clear c13
            (first|rw [c13b0]|(simp only [i64_w,i32_w];rw [c13b0])|skip)
            have H':=Aside0.mk H
            clear H
            go_wp2
            go_meet
            case rel => exact ⟨_,(false),(by first|rfl|(simp;done)|(simp [*];done)),H',⟨by have:=HK1.out;have:=HJ3.out;first|omega|exact Nat.le_refl _⟩,by repeat (first|exact Drawn0.refl _|apply Drawn0.step)⟩
           ·rw [if_neg c13] at H
            have c13b0 : ((bt a0 x4_1) == 45) = false:=beq_eq_false_iff_ne.mpr c13
            have c13b1 : ((bt a0 x4_1) != 45) = true:=bne_iff_ne.mpr c13
            (first|rw [c13b0]|(simp only [i64_w,i32_w];rw [c13b0])|skip)
            by_cases c14 : (bt a0 x4_1) < 97
            ·rw [if_pos c14] at H
             have c14b0 : decide ((bt a0 x4_1) < 97) = true:=decide_eq_true c14
             clear c14
             by_cases c15 : (bt a0 x4_1) < 48
             ·rw [if_pos c15] at H
              have c15b0 : decide ((bt a0 x4_1) < 48) = true:=decide_eq_true c15
              clear c15
              have H':=Aside0.mk H
              clear H
              go_wp2
              go_meet
              case rel => exact ⟨_,(true),(by first|rfl|(simp;done)|(simp [*];done)),H',⟨by have:=HK1.out;have:=HJ3.out;first|omega|exact Nat.le_refl _⟩,by repeat (first|exact Drawn0.refl _|apply Drawn0.step)⟩
             ·rw [if_neg c15] at H
              have c15b0 : decide ((bt a0 x4_1) < 48) = false:=decide_eq_false c15
              clear c15
              have H':=Aside0.mk H
              clear H
              go_wp2
              go_meet
              case rel => exact ⟨_,(decide ((bt a0 x4_1) > 57)),(by first|rfl|(simp;done)|(simp [*];done)),H',⟨by have:=HK1.out;have:=HJ3.out;first|omega|exact Nat.le_refl _⟩,by repeat (first|exact Drawn0.refl _|apply Drawn0.step)⟩
            ·rw [if_neg c14] at H
             have c14b0 : decide ((bt a0 x4_1) < 97) = false:=decide_eq_false c14
             clear c14
             by_cases c16 : (bt a0 x4_1) > 122
             ·rw [if_pos c16] at H
              have c16b0 : decide (122 < (bt a0 x4_1)) = true:=decide_eq_true c16
              clear c16
              by_cases c17 : (bt a0 x4_1) < 48
              ·rw [if_pos c17] at H
               have c17b0 : decide ((bt a0 x4_1) < 48) = true:=decide_eq_true c17
               clear c17
               have H':=Aside0.mk H
               clear H
               go_wp2
               go_meet
               case rel => exact ⟨_,(true),(by first|rfl|(simp;done)|(simp [*];done)),H',⟨by have:=HK1.out;have:=HJ3.out;first|omega|exact Nat.le_refl _⟩,by repeat (first|exact Drawn0.refl _|apply Drawn0.step)⟩
              ·rw [if_neg c17] at H
               have c17b0 : decide ((bt a0 x4_1) < 48) = false:=decide_eq_false c17
               clear c17
               have H':=Aside0.mk H
               clear H
               go_wp2
               go_meet
               case rel => exact ⟨_,(decide ((bt a0 x4_1) > 57)),(by first|rfl|(simp;done)|(simp [*];done)),H',⟨by have:=HK1.out;have:=HJ3.out;first|omega|exact Nat.le_refl _⟩,by repeat (first|exact Drawn0.refl _|apply Drawn0.step)⟩
             ·rw [if_neg c16] at H
              have c16b0 : decide (122 < (bt a0 x4_1)) = false:=decide_eq_false c16
              clear c16
              have H':=Aside0.mk H
              clear H
              go_wp2
              go_meet
              case rel => exact ⟨_,(false),(by first|rfl|(simp;done)|(simp [*];done)),H',⟨by have:=HK1.out;have:=HJ3.out;first|omega|exact Nat.le_refl _⟩,by repeat (first|exact Drawn0.refl _|apply Drawn0.step)⟩
          case rest =>
           clear HC12
           try clear c1
           try clear p1
           try clear q1
           try clear hx1
           try clear c2
           try clear c2b0
           try clear c2b1
           try clear p2
           try clear c3
           try clear c3b0
           try clear c5
           try clear c5b0
           try clear c6
           try clear c6b0
           try clear p7
           try clear q7
           try clear hx7
           try clear c8
           try clear c9
           try clear c9b0
           try clear c10
           try clear c10b0
           try clear p11
           try clear q11
           try clear hx11
           try clear c13
           try clear c13b0
           try clear c13b1
           try clear c14
           try clear c14b0
           try clear c15
           try clear c15b0
           try clear c16
           try clear c16b0
           try clear c17
           try clear c17b0
           try clear p11
           try clear p2
           try clear p7
           try clear q11
           try clear q7
           obtain ⟨kq,x45_11,rfl,HA,HJ11,⟨mc11,rfl⟩⟩:=hcut
           cases kq with
           | zero => exact absurd HA.out (by simp [lockkeeperref3_host.j2])
           | succ kj11 =>
            have H:=HA.out
            clear HA
            simp only [lockkeeperref3_host.j2] at H
            by_cases c18 : x45_11 = true
            ·subst c18
             have H1 : (some false) = some r:=by rw [if_pos rfl] at H;exact H
             clear H
             have H:=H1
             clear H1
             obtain rfl:=Option.some.inj H
             go_wp2
             go_ret
             exact ⟨by first|rfl|(simp;done)|(simp [*];done),by repeat (first|exact Drawn0.refl _|apply Drawn0.step)⟩
            ·replace c18:=Bool.eq_false_iff.mpr c18
             subst c18
             have H1 : (lockkeeperref3_host.l0 kj11 a0 x3_1 (wrap64 (x4_1 + 1))) = some r:=by rw [if_neg (show ¬ (false = true) by decide)] at H;exact H
             clear H
             have H:=H1
             clear H1
             have H':=Aside0.mk H
             clear H
             go_wp2
             go_roundg kj11
             case measure => have:=HK1.out;have:=HJ3.out;have:=HJ11.out;omega
             case rel => exact ⟨(x3_1),(wrap64 (x4_1 + 1)),(by first|rfl|(simp;done)|(simp [*];done)),(by first|rfl|(simp;done)|(simp [*];done)),H',⟨by have:=HK1.out;have:=HJ3.out;have:=HJ11.out;omega⟩,by repeat (first|exact Drawn0.refl _|apply Drawn0.step)⟩
         ·rw [if_neg c10] at H
          exact absurd H (by simp)
        ·rw [if_neg c9] at H
         exact absurd H (by simp)
       ·replace c8:=Bool.eq_false_iff.mpr c8
        subst c8
        have H1 : (if (wrap64 (x4_1 - x3_1)) < 1 then (some false) else (if (wrap64 (x4_1 - x3_1)) > 63 then (some false) else (if 0 ≤ x3_1 then (if x3_1 < (a0.size : Int) then (if (bt a0 x3_1) = 45 then (some false) else (if 0 ≤ (wrap64 (x4_1 - 1)) then (if (wrap64 (x4_1 - 1)) < (a0.size : Int) then (if (bt a0 (wrap64 (x4_1 - 1))) = 45 then (some false) else (lockkeeperref3_host.l0 kj3 a0 (wrap64 (x4_1 + 1)) (wrap64 (x4_1 + 1)))) else (none)) else (none))) else (none)) else (none)))) = some r:=by rw [if_neg (show ¬ (false = true) by decide)] at H;exact H
        clear H
        have H:=H1
        clear H1
        by_cases c19 : (wrap64 (x4_1 - x3_1)) < 1
        ·rw [if_pos c19] at H
         have c19b0 : decide ((wrap64 (x4_1 - x3_1)) < 1) = true:=decide_eq_true c19
         clear c19
         obtain rfl:=Option.some.inj H
         go_wp2
         go_ret
         exact ⟨by first|rfl|(simp;done)|(simp [*];done),by repeat (first|exact Drawn0.refl _|apply Drawn0.step)⟩
        ·rw [if_neg c19] at H
         have c19b0 : decide ((wrap64 (x4_1 - x3_1)) < 1) = false:=decide_eq_false c19
         clear c19
         by_cases c20 : (wrap64 (x4_1 - x3_1)) > 63
         ·rw [if_pos c20] at H
          have c20b0 : decide (63 < (wrap64 (x4_1 - x3_1))) = true:=decide_eq_true c20
          clear c20
          obtain rfl:=Option.some.inj H
          go_wp2
          go_ret
          exact ⟨by first|rfl|(simp;done)|(simp [*];done),by repeat (first|exact Drawn0.refl _|apply Drawn0.step)⟩
         ·rw [if_neg c20] at H
          have c20b0 : decide (63 < (wrap64 (x4_1 - x3_1))) = false:=decide_eq_false c20
          clear c20
          by_cases c21 : 0 ≤ x3_1
          ·rw [if_pos c21] at H
           have c21b0 : decide (0 ≤ x3_1) = true:=decide_eq_true c21
           clear c21
           by_cases c22 : x3_1 < (a0.size : Int)
           ·rw [if_pos c22] at H
            have c22b0 : decide (x3_1 < (a0.size : Int)) = true:=decide_eq_true c22
            clear c22
            by_cases c24 : (bt a0 x3_1) = 45
            ·rw [if_pos c24] at H
             have c24b0 : ((bt a0 x3_1) == 45) = true:=beq_iff_eq.mpr c24
             have c24b1 : ((bt a0 x3_1) != 45) = false:=bne_eq_false_iff_eq.mpr c24
             clear c24
             obtain rfl:=Option.some.inj H
             have p23 : 0 ≤ (x3_1 : Int):=of_decide_eq_true (by first|(with_reducible assumption)|assumption)
             have q23 : x3_1 < (a0.size : Int):=of_decide_eq_true (by first|(with_reducible assumption)|assumption)
             have hx23:=bt_at a0 x3_1
             replace p23:=eq_true p23
             replace q23:=eq_true q23
             go_wp2
             go_ret
             exact ⟨by first|rfl|(simp;done)|(simp [*];done),by repeat (first|exact Drawn0.refl _|apply Drawn0.step)⟩
            ·rw [if_neg c24] at H
             have c24b0 : ((bt a0 x3_1) == 45) = false:=beq_eq_false_iff_ne.mpr c24
             have c24b1 : ((bt a0 x3_1) != 45) = true:=bne_iff_ne.mpr c24
             obtain ⟨ji25,hji25⟩ : ∃ j_ : Int,(wrap64 (x4_1 - 1)) = j_:=⟨_,rfl⟩
             replace H : (if 0 ≤ (ji25) then (if (ji25) < (a0.size : Int) then (if (bt a0 (ji25)) = 45 then (some false) else (lockkeeperref3_host.l0 kj3 a0 (wrap64 (x4_1 + 1)) (wrap64 (x4_1 + 1)))) else (none)) else (none)) = some r:=by first|(rw [hji25] at H;exact H)|(simp only [hji25] at H ⊢;exact H)
             have hji25w : (IntKind.i64.wrap (x4_1 - 1)) = ji25:=(i64_w _).trans hji25
             by_cases c26 : 0 ≤ (ji25)
             ·rw [if_pos c26] at H
              have c26b0 : decide (0 ≤ (ji25)) = true:=decide_eq_true c26
              clear c26
              by_cases c27 : (ji25) < (a0.size : Int)
              ·rw [if_pos c27] at H
               have c27b0 : decide ((ji25) < (a0.size : Int)) = true:=decide_eq_true c27
               clear c27
               by_cases c29 : (bt a0 (ji25)) = 45
               ·rw [if_pos c29] at H
                have c29b0 : ((bt a0 (ji25)) == 45) = true:=beq_iff_eq.mpr c29
                have c29b1 : ((bt a0 (ji25)) != 45) = false:=bne_eq_false_iff_eq.mpr c29
                clear c29
                obtain rfl:=Option.some.inj H
                have p23 : 0 ≤ (x3_1 : Int):=of_decide_eq_true (by first|(with_reducible assumption)|assumption)
                have q23 : x3_1 < (a0.size : Int):=of_decide_eq_true (by first|(with_reducible assumption)|assumption)
                have hx23:=bt_at a0 x3_1
                replace p23:=eq_true p23
                replace q23:=eq_true q23
                have p28 : 0 ≤ ((ji25) : Int):=of_decide_eq_true (by first|(with_reducible assumption)|assumption)
                have q28 : (ji25) < (a0.size : Int):=of_decide_eq_true (by first|(with_reducible assumption)|assumption)
                have hx28:=bt_at a0 (ji25)
                replace p28:=eq_true p28
                replace q28:=eq_true q28
                go_wp2
                go_ret
                exact ⟨by first|rfl|(simp;done)|(simp only [← hji25] <;> (first|rfl|simp))|(simp [*];done),by repeat (first|exact Drawn0.refl _|apply Drawn0.step)⟩
               ·rw [if_neg c29] at H
                have c29b0 : ((bt a0 (ji25)) == 45) = false:=beq_eq_false_iff_ne.mpr c29
                have c29b1 : ((bt a0 (ji25)) != 45) = true:=bne_iff_ne.mpr c29
                have H':=Aside0.mk H
                clear H
                have p23 : 0 ≤ (x3_1 : Int):=of_decide_eq_true (by first|(with_reducible assumption)|assumption)
                have q23 : x3_1 < (a0.size : Int):=of_decide_eq_true (by first|(with_reducible assumption)|assumption)
                have hx23:=bt_at a0 x3_1
                replace p23:=eq_true p23
                replace q23:=eq_true q23
                have p28 : 0 ≤ ((ji25) : Int):=of_decide_eq_true (by first|(with_reducible assumption)|assumption)
                have q28 : (ji25) < (a0.size : Int):=of_decide_eq_true (by first|(with_reducible assumption)|assumption)
                have hx28:=bt_at a0 (ji25)
                replace p28:=eq_true p28
                replace q28:=eq_true q28
                go_wp2
                go_roundg kj3
                case measure => have:=HK1.out;have:=HJ3.out;omega
                case rel => exact ⟨(wrap64 (x4_1 + 1)),(wrap64 (x4_1 + 1)),(by first|rfl|(simp;done)|(simp [*];done)),(by first|rfl|(simp;done)|(simp [*];done)),H',⟨by have:=HK1.out;have:=HJ3.out;omega⟩,by repeat (first|exact Drawn0.refl _|apply Drawn0.step)⟩
              ·rw [if_neg c27] at H
               exact absurd H (by simp)
             ·rw [if_neg c26] at H
              exact absurd H (by simp)
           ·rw [if_neg c22] at H
            exact absurd H (by simp)
          ·rw [if_neg c21] at H
           exact absurd H (by simp)
    ·rw [if_neg c3] at H
     have c3b0 : decide (x4_1 ≤ (a0.size : Int)) = false:=decide_eq_false c3
     clear c3
     obtain rfl:=Option.some.inj H
     go_wp2
     go_ret
     exact ⟨by first|rfl|(simp;done)|(simp [*];done),by repeat (first|exact Drawn0.refl _|apply Drawn0.step)⟩

/-! ### lockkeeperref3_Check: function 22 -/
def lockkeeperref3_Check.f (k : Nat) (a0_0 : ByteArray) (a0_1 : ByteArray) (a0_2 : Int) : Option (Bool):=(lockkeeperref3_Default.f a0_0).bind fun t209 => (if t209 = 0 then (some false) else ((lockkeeperref3_host.f k a0_1).bind fun t210 => (if t210 = true then (if a0_2 ≥ 1 then (some (decide (a0_2 ≤ 65535))) else (some false)) else (some false))))
theorem lockkeeperref3_Check.mono : ∀ a0 a1 a2 k,LeO (lockkeeperref3_Check.f k a0 a1 a2) (lockkeeperref3_Check.f (k + 1) a0 a1 a2):=by
 intro a0 a1 a2 k
 unfold lockkeeperref3_Check.f
 repeat' first
   | (with_reducible exact lockkeeperref3_host.mono _ _)
   | (with_reducible exact LeO.refl _)
   | (with_reducible exact LeO.none _)
   | (with_reducible refine LeO.ite ?_ ?_)
   | (with_reducible refine LeO.bind ?_ (fun _ => ?_))
   | exact lockkeeperref3_host.mono _ _
   | exact LeO.none _
   | refine LeO.ite ?_ ?_
   | refine LeO.bind ?_ (fun _ => ?_)
set_option maxHeartbeats 8000000 in
set_option maxRecDepth 100000 in
theorem lockkeeperref3_Check.calls (k : Nat) (a0_0 : ByteArray) (a0_1 : ByteArray) (a0_2 : Int) (r : Bool) (w : World) (h : lockkeeperref3_Check.f k a0_0 a0_1 a0_2 = some r) :
  Calls Tryd.prog 22 #[.agg #[.string a0_0,.string a0_1,.int .i64 a0_2]] w fun e w' => e = .returned (.bool r) ∧ Below w.heap.size w w':=by
 have hu23:=Tryd.underlying23
 have HB:=Aside0.mk (Below.refl w.heap.size w)
 have H : ((lockkeeperref3_Default.f a0_0).bind fun t209 => (if t209 = 0 then (some false) else ((lockkeeperref3_host.f k a0_1).bind fun t210 => (if t210 = true then (if a0_2 ≥ 1 then (some (decide (a0_2 ≤ 65535))) else (some false)) else (some false))))) = some r:=h
 clear h
 replace H:=Option.bind_eq_some_iff.mp H
 obtain ⟨t209,A20,H⟩:=H
 replace H : (if t209 = 0 then (some false) else ((lockkeeperref3_host.f k a0_1).bind fun t210 => (if t210 = true then (if a0_2 ≥ 1 then (some (decide (a0_2 ≤ 65535))) else (some false)) else (some false)))) = some r:=H
 have A2:=Aside0.mk A20
 clear A20
 by_cases c3 : t209 = 0
 ·rw [if_pos c3] at H
  have c3b0 : (t209 == 0) = true:=beq_iff_eq.mpr c3
  have c3b1 : (t209 != 0) = false:=bne_eq_false_iff_eq.mpr c3
  clear c3
  obtain rfl:=Option.some.inj H
  go_enter Tryd.func22,Tryd.ntmps22
  go_wp2_with (first|((with_reducible refine gate_dst (N:=1) rfl ?_);refine box_event ?hg (N:=1) ?hd (cs:=#[.string a0_0,.string a0_1,.int .i64 a0_2]) (t:=23) ?hr ?_;(case hd => rfl);(case hg => rfl);(case hr => first|(go_simp;done)|(go_simp;rfl));intro gb208 hg w4 hbox hb;have n0_:=Aside0.mk (below_step (by repeat (first|(with_reducible first|exact HB.out|apply below_alloc|apply pw_below_drewN|apply below_drew1)|exact HB.out)) hb);have n1_:=Aside0.mk (hbox);have n2_:=Aside0.mk ((by rw [hg];exact (below_size (by repeat (first|(with_reducible first|exact HB.out|apply below_alloc|apply pw_below_drewN|apply below_drew1)|exact HB.out))) : w.heap.size ≤ gb208));have n3_:=Aside0.mk ((by rw [hg];exact (below_size (by repeat (first|(with_reducible first|exact HB.out|apply below_alloc|apply pw_below_drewN|apply below_drew1)|exact HB.out))) : w.heap.size ≤ gb208));clear HB;have HB:=n0_;have BK208:=n1_;have GW208:=n2_;have GE208:=n3_;clear n0_ n1_ n2_ n3_;clear hb hbox hg;have hcz5_0 : w4.cell? ⟨gb208,0,none⟩ = some (.string a0_0):=(blk_cell BK208.out 0).trans rfl;have hcz5_1 : w4.cell? ⟨gb208,1,none⟩ = some (.string a0_1):=(blk_cell BK208.out 1).trans rfl;have hcz5_2 : w4.cell? ⟨gb208,2,none⟩ = some (.int .i64 a0_2):=(blk_cell BK208.out 2).trans rfl;have hfz5_0:=blk_frozen BK208.out 0;have hfz5_1:=blk_frozen BK208.out 1;have hfz5_2:=blk_frozen BK208.out 2)|((with_reducible refine gate_callee (f:=28) rfl ?_);refine goesL_ (some 5) rfl rfl Tryd.func28 (by kernel_rfl) rfl #[.string a0_0] rfl (by (try simp only [List.map_toArray,List.map_cons,List.map_nil]);first|done|rfl|(simp only [List.length_drop,List.length_take];rfl)) ?_;(with_reducible refine (lockkeeperref3_Default.calls a0_0 t209 _ A2.out).mono ?_);rintro e w' ⟨rfl,⟨nd,rfl⟩⟩;refine ⟨_,rfl,?_⟩))
  go_ret
  exact ⟨by first|rfl|(simp [errW_none,errW_some] <;> rfl)|(simp [*,errW_none,errW_some] <;> rfl),by repeat (first|(with_reducible first|exact HB.out|apply below_alloc|apply pw_below_drewN|apply below_drew1|refine below_set ?_ GE208.out)|exact HB.out)⟩
 ·rw [if_neg c3] at H
  have c3b0 : (t209 == 0) = false:=beq_eq_false_iff_ne.mpr c3
  have c3b1 : (t209 != 0) = true:=bne_iff_ne.mpr c3
  replace H:=Option.bind_eq_some_iff.mp H
  obtain ⟨t210,A60,H⟩:=H
  replace H : (if t210 = true then (if a0_2 ≥ 1 then (some (decide (a0_2 ≤ 65535))) else (some false)) else (some false)) = some r:=H
  have A6:=Aside0.mk A60
  clear A60
  by_cases c7 : t210 = true
  ·subst c7
   have H1 : (if a0_2 ≥ 1 then (some (decide (a0_2 ≤ 65535))) else (some false)) = some r:=by rw [if_pos rfl] at H;exact H
   clear H
   have H:=H1
   clear H1
   by_cases c8 : a0_2 ≥ 1
   ·rw [if_pos c8] at H
    have c8b0 : decide (1 ≤ a0_2) = true:=decide_eq_true c8
    clear c8
    obtain rfl:=Option.some.inj H
    go_enter Tryd.func22,Tryd.ntmps22
    go_wp2_with (first|((with_reducible refine gate_dst (N:=1) rfl ?_);refine box_event ?hg (N:=1) ?hd (cs:=#[.string a0_0,.string a0_1,.int .i64 a0_2]) (t:=23) ?hr ?_;(case hd => rfl);(case hg => rfl);(case hr => first|(go_simp;done)|(go_simp;rfl));intro gb208 hg w9 hbox hb;have n0_:=Aside0.mk (below_step (by repeat (first|(with_reducible first|exact HB.out|apply below_alloc|apply pw_below_drewN|apply below_drew1)|exact HB.out)) hb);have n1_:=Aside0.mk (hbox);have n2_:=Aside0.mk ((by rw [hg];exact (below_size (by repeat (first|(with_reducible first|exact HB.out|apply below_alloc|apply pw_below_drewN|apply below_drew1)|exact HB.out))) : w.heap.size ≤ gb208));have n3_:=Aside0.mk ((by rw [hg];exact (below_size (by repeat (first|(with_reducible first|exact HB.out|apply below_alloc|apply pw_below_drewN|apply below_drew1)|exact HB.out))) : w.heap.size ≤ gb208));clear HB;have HB:=n0_;have BK208:=n1_;have GW208:=n2_;have GE208:=n3_;clear n0_ n1_ n2_ n3_;clear hb hbox hg;have hcz10_0 : w9.cell? ⟨gb208,0,none⟩ = some (.string a0_0):=(blk_cell BK208.out 0).trans rfl;have hcz10_1 : w9.cell? ⟨gb208,1,none⟩ = some (.string a0_1):=(blk_cell BK208.out 1).trans rfl;have hcz10_2 : w9.cell? ⟨gb208,2,none⟩ = some (.int .i64 a0_2):=(blk_cell BK208.out 2).trans rfl;have hfz10_0:=blk_frozen BK208.out 0;have hfz10_1:=blk_frozen BK208.out 1;have hfz10_2:=blk_frozen BK208.out 2)|((with_reducible refine gate_callee (f:=28) rfl ?_);refine goesL_ (some 5) rfl rfl Tryd.func28 (by kernel_rfl) rfl #[.string a0_0] rfl (by (try simp only [List.map_toArray,List.map_cons,List.map_nil]);first|done|rfl|(simp only [List.length_drop,List.length_take];rfl)) ?_;(with_reducible refine (lockkeeperref3_Default.calls a0_0 t209 _ A2.out).mono ?_);rintro e w' ⟨rfl,⟨nd,rfl⟩⟩;refine ⟨_,rfl,?_⟩)|(go_at_call 50;(with_reducible refine (lockkeeperref3_host.calls k a0_1 true _ A6.out).mono ?_);rintro e w' ⟨rfl,⟨nd,rfl⟩⟩))
    go_ret
    exact ⟨by first|rfl|(simp [errW_none,errW_some] <;> rfl)|(simp [*,errW_none,errW_some] <;> rfl),by repeat (first|(with_reducible first|exact HB.out|apply below_alloc|apply pw_below_drewN|apply below_drew1|refine below_set ?_ GE208.out)|exact HB.out)⟩
   ·rw [if_neg c8] at H
    have c8b0 : decide (1 ≤ a0_2) = false:=decide_eq_false c8
    clear c8
    obtain rfl:=Option.some.inj H
    go_enter Tryd.func22,Tryd.ntmps22
    go_wp2_with (first|((with_reducible refine gate_dst (N:=1) rfl ?_);refine box_event ?hg (N:=1) ?hd (cs:=#[.string a0_0,.string a0_1,.int .i64 a0_2]) (t:=23) ?hr ?_;(case hd => rfl);(case hg => rfl);(case hr => first|(go_simp;done)|(go_simp;rfl));intro gb208 hg w11 hbox hb;have n0_:=Aside0.mk (below_step (by repeat (first|(with_reducible first|exact HB.out|apply below_alloc|apply pw_below_drewN|apply below_drew1)|exact HB.out)) hb);have n1_:=Aside0.mk (hbox);have n2_:=Aside0.mk ((by rw [hg];exact (below_size (by repeat (first|(with_reducible first|exact HB.out|apply below_alloc|apply pw_below_drewN|apply below_drew1)|exact HB.out))) : w.heap.size ≤ gb208));have n3_:=Aside0.mk ((by rw [hg];exact (below_size (by repeat (first|(with_reducible first|exact HB.out|apply below_alloc|apply pw_below_drewN|apply below_drew1)|exact HB.out))) : w.heap.size ≤ gb208));clear HB;have HB:=n0_;have BK208:=n1_;have GW208:=n2_;have GE208:=n3_;clear n0_ n1_ n2_ n3_;clear hb hbox hg;have hcz12_0 : w11.cell? ⟨gb208,0,none⟩ = some (.string a0_0):=(blk_cell BK208.out 0).trans rfl;have hcz12_1 : w11.cell? ⟨gb208,1,none⟩ = some (.string a0_1):=(blk_cell BK208.out 1).trans rfl;have hcz12_2 : w11.cell? ⟨gb208,2,none⟩ = some (.int .i64 a0_2):=(blk_cell BK208.out 2).trans rfl;have hfz12_0:=blk_frozen BK208.out 0;have hfz12_1:=blk_frozen BK208.out 1;have hfz12_2:=blk_frozen BK208.out 2)|((with_reducible refine gate_callee (f:=28) rfl ?_);refine goesL_ (some 5) rfl rfl Tryd.func28 (by kernel_rfl) rfl #[.string a0_0] rfl (by (try simp only [List.map_toArray,List.map_cons,List.map_nil]);first|done|rfl|(simp only [List.length_drop,List.length_take];rfl)) ?_;(with_reducible refine (lockkeeperref3_Default.calls a0_0 t209 _ A2.out).mono ?_);rintro e w' ⟨rfl,⟨nd,rfl⟩⟩;refine ⟨_,rfl,?_⟩)|(go_at_call 50;(with_reducible refine (lockkeeperref3_host.calls k a0_1 true _ A6.out).mono ?_);rintro e w' ⟨rfl,⟨nd,rfl⟩⟩))
    go_ret
    exact ⟨by first|rfl|(simp [errW_none,errW_some] <;> rfl)|(simp [*,errW_none,errW_some] <;> rfl),by repeat (first|(with_reducible first|exact HB.out|apply below_alloc|apply pw_below_drewN|apply below_drew1|refine below_set ?_ GE208.out)|exact HB.out)⟩
  ·replace c7:=Bool.eq_false_iff.mpr c7
   subst c7
   have H1 : (some false) = some r:=by rw [if_neg (show ¬ (false = true) by decide)] at H;exact H
   clear H
   have H:=H1
   clear H1
   obtain rfl:=Option.some.inj H
   go_enter Tryd.func22,Tryd.ntmps22
   go_wp2_with (first|((with_reducible refine gate_dst (N:=1) rfl ?_);refine box_event ?hg (N:=1) ?hd (cs:=#[.string a0_0,.string a0_1,.int .i64 a0_2]) (t:=23) ?hr ?_;(case hd => rfl);(case hg => rfl);(case hr => first|(go_simp;done)|(go_simp;rfl));intro gb208 hg w13 hbox hb;have n0_:=Aside0.mk (below_step (by repeat (first|(with_reducible first|exact HB.out|apply below_alloc|apply pw_below_drewN|apply below_drew1)|exact HB.out)) hb);have n1_:=Aside0.mk (hbox);have n2_:=Aside0.mk ((by rw [hg];exact (below_size (by repeat (first|(with_reducible first|exact HB.out|apply below_alloc|apply pw_below_drewN|apply below_drew1)|exact HB.out))) : w.heap.size ≤ gb208));have n3_:=Aside0.mk ((by rw [hg];exact (below_size (by repeat (first|(with_reducible first|exact HB.out|apply below_alloc|apply pw_below_drewN|apply below_drew1)|exact HB.out))) : w.heap.size ≤ gb208));clear HB;have HB:=n0_;have BK208:=n1_;have GW208:=n2_;have GE208:=n3_;clear n0_ n1_ n2_ n3_;clear hb hbox hg;have hcz14_0 : w13.cell? ⟨gb208,0,none⟩ = some (.string a0_0):=(blk_cell BK208.out 0).trans rfl;have hcz14_1 : w13.cell? ⟨gb208,1,none⟩ = some (.string a0_1):=(blk_cell BK208.out 1).trans rfl;have hcz14_2 : w13.cell? ⟨gb208,2,none⟩ = some (.int .i64 a0_2):=(blk_cell BK208.out 2).trans rfl;have hfz14_0:=blk_frozen BK208.out 0;have hfz14_1:=blk_frozen BK208.out 1;have hfz14_2:=blk_frozen BK208.out 2)|((with_reducible refine gate_callee (f:=28) rfl ?_);refine goesL_ (some 5) rfl rfl Tryd.func28 (by kernel_rfl) rfl #[.string a0_0] rfl (by (try simp only [List.map_toArray,List.map_cons,List.map_nil]);first|done|rfl|(simp only [List.length_drop,List.length_take];rfl)) ?_;(with_reducible refine (lockkeeperref3_Default.calls a0_0 t209 _ A2.out).mono ?_);rintro e w' ⟨rfl,⟨nd,rfl⟩⟩;refine ⟨_,rfl,?_⟩)|(go_at_call 50;(with_reducible refine (lockkeeperref3_host.calls k a0_1 false _ A6.out).mono ?_);rintro e w' ⟨rfl,⟨nd,rfl⟩⟩))
   go_ret
   exact ⟨by first|rfl|(simp [errW_none,errW_some] <;> rfl)|(simp [*,errW_none,errW_some] <;> rfl),by repeat (first|(with_reducible first|exact HB.out|apply below_alloc|apply pw_below_drewN|apply below_drew1|refine below_set ?_ GE208.out)|exact HB.out)⟩

/-! ### lockkeeperref3_Behind: function 42 -/
def lockkeeperref3_Behind.l0 : Nat → ByteArray → Int → Option (Int)
 | 0,_,_ => none
 | k + 1,x0,x3 => if (wrap64 (x3 + 3)) ≤ (x0.size : Int) then (if 0 ≤ x3 then (if x3 ≤ (wrap64 (x3 + 3)) then (if (x0.extract (x3 : Int).toNat ((wrap64 (x3 + 3)) : Int).toNat).toList = ([58,47,47] : List UInt8) then (some x3) else (lockkeeperref3_Behind.l0 k x0 (wrap64 (x3 + 1)))) else (none)) else (none)) else (some (-1))
def lockkeeperref3_Behind.f (k : Nat) (a0 : ByteArray) : Option (Int):=lockkeeperref3_Behind.l0 k a0 0
theorem lockkeeperref3_Behind.mono_l : ∀ k,(∀ y0 y1,LeO (lockkeeperref3_Behind.l0 k y0 y1) (lockkeeperref3_Behind.l0 (k + 1) y0 y1))
 | 0 => fun _ _ r h => by simp [lockkeeperref3_Behind.l0] at h
 | k + 1 => by
  have ih0:=lockkeeperref3_Behind.mono_l k
  ·intro y0 y1
   unfold lockkeeperref3_Behind.l0
   repeat' first
   | (with_reducible exact ih0 _ _)
   | (with_reducible exact LeO.refl _)
   | (with_reducible exact LeO.none _)
   | (with_reducible refine LeO.ite ?_ ?_)
   | (with_reducible refine LeO.bind ?_ (fun _ => ?_))
   | exact ih0 _ _
   | exact LeO.none _
   | refine LeO.ite ?_ ?_
   | refine LeO.bind ?_ (fun _ => ?_)
theorem lockkeeperref3_Behind.mono : ∀ a0 k,LeO (lockkeeperref3_Behind.f k a0) (lockkeeperref3_Behind.f (k + 1) a0):=by
 intro a0 k
 have ih0:=lockkeeperref3_Behind.mono_l k
 unfold lockkeeperref3_Behind.f
 repeat' first
   | (with_reducible exact ih0 _ _)
   | (with_reducible exact LeO.refl _)
   | (with_reducible exact LeO.none _)
   | (with_reducible refine LeO.ite ?_ ?_)
   | (with_reducible refine LeO.bind ?_ (fun _ => ?_))
   | exact ih0 _ _
   | exact LeO.none _
   | refine LeO.ite ?_ ?_
   | refine LeO.bind ?_ (fun _ => ?_)
set_option maxHeartbeats 8000000 in
set_option maxRecDepth 100000 in
theorem lockkeeperref3_Behind.calls (k : Nat) (a0 : ByteArray) (r : Int) (w : World) (h : lockkeeperref3_Behind.f k a0 = some r) :
  Calls Tryd.prog 42 #[.string a0] w fun e w' => e = .returned (.int .i64 r) ∧ Drawn0 w w':=by
 have H : (lockkeeperref3_Behind.l0 k a0 0) = some r:=h
 clear h
 have H':=Aside0.mk H
 clear H
 go_enter Tryd.func42,Tryd.ntmps42
 go_wp2
 go_loopg [3] k (fun kq v3 w' => ∃ (x3_1 : Int),v3 = .int .i64 x3_1 ∧ Aside0 (lockkeeperref3_Behind.l0 kq a0 x3_1 = some r) ∧ Aside0 (kq ≤ k) ∧ Drawn0 w w')
 case atStart => exact ⟨(0),(by first|rfl|(simp;done)|(simp [*];done)),H',⟨Nat.le_refl _⟩,by repeat (first|exact Drawn0.refl _|apply Drawn0.step)⟩
 case round =>
  clear H'
  obtain ⟨x3_1,rfl,HA,HK1,⟨m1,rfl⟩⟩:=hrel
  cases gk with
  | zero => exact absurd HA.out (by simp [lockkeeperref3_Behind.l0])
  | succ k1 =>
   have H:=HA.out
   clear HA
   simp only [lockkeeperref3_Behind.l0] at H
   by_cases c2 : (wrap64 (x3_1 + 3)) ≤ (a0.size : Int)
   ·rw [if_pos c2] at H
    have c2b0 : decide ((wrap64 (x3_1 + 3)) ≤ (a0.size : Int)) = true:=decide_eq_true c2
    clear c2
    by_cases c3 : 0 ≤ x3_1
    ·rw [if_pos c3] at H
     have c3b0:=eq_true c3
     have c3b1 : decide (0 ≤ x3_1) = true:=decide_eq_true c3
     clear c3
     by_cases c4 : x3_1 ≤ (wrap64 (x3_1 + 3))
     ·rw [if_pos c4] at H
      have c4b0:=eq_true c4
      have c4b1 : decide (x3_1 ≤ (wrap64 (x3_1 + 3))) = true:=decide_eq_true c4
      have c5b0:=eq_true (of_decide_eq_true (by first|(with_reducible assumption)|assumption) : (wrap64 (x3_1 + 3)) ≤ (a0.size : Int))
      by_cases c6 : (a0.extract (x3_1 : Int).toNat ((wrap64 (x3_1 + 3)) : Int).toNat).toList = ([58,47,47] : List UInt8)
      ·rw [if_pos c6] at H
       have c6b0 : ((a0.extract (x3_1 : Int).toNat ((wrap64 (x3_1 + 3)) : Int).toNat).toList == ([58,47,47] : List UInt8)) = true:=beq_iff_eq.mpr c6
       have c6b1 : ((a0.extract (x3_1 : Int).toNat ((wrap64 (x3_1 + 3)) : Int).toNat).toList != ([58,47,47] : List UInt8)) = false:=bne_eq_false_iff_eq.mpr c6
       clear c6
       obtain rfl:=Option.some.inj H
       go_wp2
       go_ret
       exact ⟨by first|rfl|(simp;done)|(simp [*];done),by repeat (first|exact Drawn0.refl _|apply Drawn0.step)⟩
      ·rw [if_neg c6] at H
       have c6b0 : ((a0.extract (x3_1 : Int).toNat ((wrap64 (x3_1 + 3)) : Int).toNat).toList == ([58,47,47] : List UInt8)) = false:=beq_eq_false_iff_ne.mpr c6
       have c6b1 : ((a0.extract (x3_1 : Int).toNat ((wrap64 (x3_1 + 3)) : Int).toNat).toList != ([58,47,47] : List UInt8)) = true:=bne_iff_ne.mpr c6
       have H':=Aside0.mk H
       clear H
       go_wp2
       go_roundg k1
       case measure => have:=HK1.out;omega
       case rel => exact ⟨(wrap64 (x3_1 + 1)),(by first|rfl|(simp;done)|(simp [*];done)),H',⟨by have:=HK1.out;omega⟩,by repeat (first|exact Drawn0.refl _|apply Drawn0.step)⟩
     ·rw [if_neg c4] at H
      exact absurd H (by simp)
    ·rw [if_neg c3] at H
     exact absurd H (by simp)
   ·rw [if_neg c2] at H
    have c2b0 : decide ((wrap64 (x3_1 + 3)) ≤ (a0.size : Int)) = false:=decide_eq_false c2
    clear c2
    obtain rfl:=Option.some.inj H
    go_wp2
    go_ret
    exact ⟨by first|rfl|(simp;done)|(simp [*];done),by repeat (first|exact Drawn0.refl _|apply Drawn0.step)⟩

/-! ### lockkeeperref1_Num: function 32 -/
def lockkeeperref1_Num.l0 : Nat → Int → ByteArray → Option (ByteArray)
 | 0,_,_ => none
 | k + 1,x0,x3 => if x0 > 9 then (if 0 ≤ (Int.tmod x0 10) then (if (Int.tmod x0 10) ≤ (IntKind.u64.wrap ((Int.tmod x0 10) + 1)) then (if (IntKind.u64.wrap ((Int.tmod x0 10) + 1)) ≤ 10 then (if ((⟨#[48,49,50,51,52,53,54,55,56,57]⟩ : ByteArray).extract ((Int.tmod x0 10) : Int).toNat ((IntKind.u64.wrap ((Int.tmod x0 10) + 1)) : Int).toNat).size + x3.size ≤ 9223372036854775807 then (lockkeeperref1_Num.l0 k (IntKind.u64.wrap (Int.tdiv x0 10)) (((⟨#[48,49,50,51,52,53,54,55,56,57]⟩ : ByteArray).extract ((Int.tmod x0 10) : Int).toNat ((IntKind.u64.wrap ((Int.tmod x0 10) + 1)) : Int).toNat) ++ x3)) else (none)) else (none)) else (none)) else (none)) else (if 0 ≤ x0 then (if x0 ≤ (IntKind.u64.wrap (x0 + 1)) then (if (IntKind.u64.wrap (x0 + 1)) ≤ 10 then (if ((⟨#[48,49,50,51,52,53,54,55,56,57]⟩ : ByteArray).extract (x0 : Int).toNat ((IntKind.u64.wrap (x0 + 1)) : Int).toNat).size + x3.size ≤ 9223372036854775807 then (some (((⟨#[48,49,50,51,52,53,54,55,56,57]⟩ : ByteArray).extract (x0 : Int).toNat ((IntKind.u64.wrap (x0 + 1)) : Int).toNat) ++ x3)) else (none)) else (none)) else (none)) else (none))
def lockkeeperref1_Num.f (k : Nat) (a0 : Int) : Option (ByteArray):=lockkeeperref1_Num.l0 k a0 (⟨#[]⟩ : ByteArray)
theorem lockkeeperref1_Num.mono_l : ∀ k,(∀ y0 y1,LeO (lockkeeperref1_Num.l0 k y0 y1) (lockkeeperref1_Num.l0 (k + 1) y0 y1))
 | 0 => fun _ _ r h => by simp [lockkeeperref1_Num.l0] at h
 | k + 1 => by
  have ih0:=lockkeeperref1_Num.mono_l k
  ·intro y0 y1
   unfold lockkeeperref1_Num.l0
   repeat' first
   | (with_reducible exact ih0 _ _)
   | (with_reducible exact LeO.refl _)
   | (with_reducible exact LeO.none _)
   | (with_reducible refine LeO.ite ?_ ?_)
   | (with_reducible refine LeO.bind ?_ (fun _ => ?_))
   | exact ih0 _ _
   | exact LeO.none _
   | refine LeO.ite ?_ ?_
   | refine LeO.bind ?_ (fun _ => ?_)
theorem lockkeeperref1_Num.mono : ∀ a0 k,LeO (lockkeeperref1_Num.f k a0) (lockkeeperref1_Num.f (k + 1) a0):=by
 intro a0 k
 have ih0:=lockkeeperref1_Num.mono_l k
 unfold lockkeeperref1_Num.f
 repeat' first
   | (with_reducible exact ih0 _ _)
   | (with_reducible exact LeO.refl _)
   | (with_reducible exact LeO.none _)
   | (with_reducible refine LeO.ite ?_ ?_)
   | (with_reducible refine LeO.bind ?_ (fun _ => ?_))
   | exact ih0 _ _
   | exact LeO.none _
   | refine LeO.ite ?_ ?_
   | refine LeO.bind ?_ (fun _ => ?_)
set_option maxHeartbeats 8000000 in
set_option maxRecDepth 100000 in
theorem lockkeeperref1_Num.calls (k : Nat) (a0 : Int) (r : ByteArray) (w : World) (h : lockkeeperref1_Num.f k a0 = some r) :
  Calls Tryd.prog 32 #[.int .u64 a0] w fun e w' => e = .returned (.string r) ∧ Drawn0 w w':=by
 have H : (lockkeeperref1_Num.l0 k a0 (⟨#[]⟩ : ByteArray)) = some r:=h
 clear h
 have H':=Aside0.mk H
 clear H
 go_enter Tryd.func32,Tryd.ntmps32
 go_wp2
 go_loopg [0,3] k (fun kq v0 v3 w' => ∃ (x0_1 : Int) (x3_1 : ByteArray),v0 = .int .u64 x0_1 ∧ v3 = .string x3_1 ∧ Aside0 (lockkeeperref1_Num.l0 kq x0_1 x3_1 = some r) ∧ Aside0 (kq ≤ k) ∧ Drawn0 w w')
 case atStart => exact ⟨(a0),((⟨#[]⟩ : ByteArray)),(by first|rfl|(simp;done)|(simp [*];done)),(by first|rfl|(simp;done)|(simp [*];done)),H',⟨Nat.le_refl _⟩,by repeat (first|exact Drawn0.refl _|apply Drawn0.step)⟩
 case round =>
  clear H'
  obtain ⟨x0_1,x3_1,rfl,rfl,HA,HK1,⟨m1,rfl⟩⟩:=hrel
  cases gk with
  | zero => exact absurd HA.out (by simp [lockkeeperref1_Num.l0])
  | succ k1 =>
   have H:=HA.out
   clear HA
   simp only [lockkeeperref1_Num.l0] at H
   by_cases c2 : x0_1 > 9
   ·rw [if_pos c2] at H
    have c2b0 : decide (9 < x0_1) = true:=decide_eq_true c2
    clear c2
    obtain ⟨ji3,hji3⟩ : ∃ j_ : Int,(Int.tmod x0_1 10) = j_:=⟨_,rfl⟩
    replace H : (if 0 ≤ (ji3) then (if (ji3) ≤ (IntKind.u64.wrap ((ji3) + 1)) then (if (IntKind.u64.wrap ((ji3) + 1)) ≤ 10 then (if ((⟨#[48,49,50,51,52,53,54,55,56,57]⟩ : ByteArray).extract ((ji3) : Int).toNat ((IntKind.u64.wrap ((ji3) + 1)) : Int).toNat).size + x3_1.size ≤ 9223372036854775807 then (lockkeeperref1_Num.l0 k1 (IntKind.u64.wrap (Int.tdiv x0_1 10)) (((⟨#[48,49,50,51,52,53,54,55,56,57]⟩ : ByteArray).extract ((ji3) : Int).toNat ((IntKind.u64.wrap ((ji3) + 1)) : Int).toNat) ++ x3_1)) else (none)) else (none)) else (none)) else (none)) = some r:=by first|(rw [hji3] at H;exact H)|(simp only [hji3] at H ⊢;exact H)
    by_cases c4 : 0 ≤ (ji3)
    ·rw [if_pos c4] at H
     have c4b0:=eq_true c4
     have c4b1 : decide (0 ≤ (ji3)) = true:=decide_eq_true c4
     clear c4
     by_cases c5 : (ji3) ≤ (IntKind.u64.wrap ((ji3) + 1))
     ·rw [if_pos c5] at H
      have c5b0:=eq_true c5
      have c5b1 : decide ((ji3) ≤ (IntKind.u64.wrap ((ji3) + 1))) = true:=decide_eq_true c5
      by_cases c6 : (IntKind.u64.wrap ((ji3) + 1)) ≤ 10
      ·rw [if_pos c6] at H
       have c6b0:=eq_true c6
       have c6b1 : decide ((IntKind.u64.wrap ((ji3) + 1)) ≤ 10) = true:=decide_eq_true c6
       by_cases c7 : ((⟨#[48,49,50,51,52,53,54,55,56,57]⟩ : ByteArray).extract ((ji3) : Int).toNat ((IntKind.u64.wrap ((ji3) + 1)) : Int).toNat).size + x3_1.size ≤ 9223372036854775807
       ·rw [if_pos c7] at H
        have c7b0:=eq_true c7
        have c7b1 : decide (((⟨#[48,49,50,51,52,53,54,55,56,57]⟩ : ByteArray).extract ((ji3) : Int).toNat ((IntKind.u64.wrap ((ji3) + 1)) : Int).toNat).size + x3_1.size ≤ 9223372036854775807) = true:=decide_eq_true c7
        try have c7b2 : (9223372036854775807 < ((⟨#[48,49,50,51,52,53,54,55,56,57]⟩ : ByteArray).extract ((ji3) : Int).toNat ((IntKind.u64.wrap ((ji3) + 1)) : Int).toNat).size + x3_1.size) = False:=eq_false (Nat.not_lt.2 c7)
        have H':=Aside0.mk H
        clear H
        go_wp2
        go_roundg k1
        case measure => have:=HK1.out;omega
        case rel => exact ⟨(IntKind.u64.wrap (Int.tdiv x0_1 10)),(((⟨#[48,49,50,51,52,53,54,55,56,57]⟩ : ByteArray).extract ((ji3) : Int).toNat ((IntKind.u64.wrap ((ji3) + 1)) : Int).toNat) ++ x3_1),(by first|rfl|(simp;done)|(simp [*];done)),(by first|rfl|(simp;done)|(simp only [← hji3] <;> (first|rfl|simp))|(simp [*];done)),H',⟨by have:=HK1.out;omega⟩,by repeat (first|exact Drawn0.refl _|apply Drawn0.step)⟩
       ·rw [if_neg c7] at H
        exact absurd H (by simp)
      ·rw [if_neg c6] at H
       exact absurd H (by simp)
     ·rw [if_neg c5] at H
      exact absurd H (by simp)
    ·rw [if_neg c4] at H
     exact absurd H (by simp)
   ·rw [if_neg c2] at H
    have c2b0 : decide (9 < x0_1) = false:=decide_eq_false c2
    clear c2
    by_cases c8 : 0 ≤ x0_1
    ·rw [if_pos c8] at H
     have c8b0:=eq_true c8
     have c8b1 : decide (0 ≤ x0_1) = true:=decide_eq_true c8
     clear c8
     by_cases c9 : x0_1 ≤ (IntKind.u64.wrap (x0_1 + 1))
     ·rw [if_pos c9] at H
      have c9b0:=eq_true c9
      have c9b1 : decide (x0_1 ≤ (IntKind.u64.wrap (x0_1 + 1))) = true:=decide_eq_true c9
      by_cases c10 : (IntKind.u64.wrap (x0_1 + 1)) ≤ 10
      ·rw [if_pos c10] at H
       have c10b0:=eq_true c10
       have c10b1 : decide ((IntKind.u64.wrap (x0_1 + 1)) ≤ 10) = true:=decide_eq_true c10
       by_cases c11 : ((⟨#[48,49,50,51,52,53,54,55,56,57]⟩ : ByteArray).extract (x0_1 : Int).toNat ((IntKind.u64.wrap (x0_1 + 1)) : Int).toNat).size + x3_1.size ≤ 9223372036854775807
       ·rw [if_pos c11] at H
        have c11b0:=eq_true c11
        have c11b1 : decide (((⟨#[48,49,50,51,52,53,54,55,56,57]⟩ : ByteArray).extract (x0_1 : Int).toNat ((IntKind.u64.wrap (x0_1 + 1)) : Int).toNat).size + x3_1.size ≤ 9223372036854775807) = true:=decide_eq_true c11
        try have c11b2 : (9223372036854775807 < ((⟨#[48,49,50,51,52,53,54,55,56,57]⟩ : ByteArray).extract (x0_1 : Int).toNat ((IntKind.u64.wrap (x0_1 + 1)) : Int).toNat).size + x3_1.size) = False:=eq_false (Nat.not_lt.2 c11)
        obtain rfl:=Option.some.inj H
        go_wp2
        go_ret
        exact ⟨by first|rfl|(simp;done)|(simp [*];done),by repeat (first|exact Drawn0.refl _|apply Drawn0.step)⟩
       ·rw [if_neg c11] at H
        exact absurd H (by simp)
      ·rw [if_neg c10] at H
       exact absurd H (by simp)
     ·rw [if_neg c9] at H
      exact absurd H (by simp)
    ·rw [if_neg c8] at H
     exact absurd H (by simp)

/-! ### lockkeeperref1_Digits: function 67 -/
mutual
def lockkeeperref1_Digits.l0 : Nat → ByteArray → Int → Int → Option (Int × Bool)
 | 0,_,_,_ => none
 | k + 1,x0,x4,x5 => if x5 < (x0.size : Int) then (if 0 ≤ x5 then (if (bt x0 x5) < 48 then (lockkeeperref1_Digits.j1 k x0 x4 x5 true) else (lockkeeperref1_Digits.j1 k x0 x4 x5 (decide ((bt x0 x5) > 57)))) else (none)) else (some (x4,decide ((x0.size : Int) > 0)))
def lockkeeperref1_Digits.j1 : Nat → ByteArray → Int → Int → Bool → Option (Int × Bool)
 | 0,_,_,_,_ => none
 | k + 1,x0,x4,x5,x22 => if x22 = true then (some (0,false)) else (if 0 ≤ x5 then (if x5 < (x0.size : Int) then (if x4 > ((18446744073709551615 - (((bt x0 x5) - 48) % 256)) / 10) then (lockkeeperref1_Digits.l0 k x0 18446744073709551615 (wrap64 (x5 + 1))) else (lockkeeperref1_Digits.l0 k x0 (IntKind.u64.wrap ((IntKind.u64.wrap (10 * x4)) + (((bt x0 x5) - 48) % 256))) (wrap64 (x5 + 1)))) else (none)) else (none))
end
def lockkeeperref1_Digits.f (k : Nat) (a0 : ByteArray) : Option (Int × Bool):=lockkeeperref1_Digits.l0 k a0 0 0
theorem lockkeeperref1_Digits.mono_l : ∀ k,(∀ y0 y1 y2,LeO (lockkeeperref1_Digits.l0 k y0 y1 y2) (lockkeeperref1_Digits.l0 (k + 1) y0 y1 y2)) ∧ (∀ y0 y1 y2 y3,LeO (lockkeeperref1_Digits.j1 k y0 y1 y2 y3) (lockkeeperref1_Digits.j1 (k + 1) y0 y1 y2 y3))
 | 0 => ⟨fun _ _ _ r h => by simp [lockkeeperref1_Digits.l0] at h,fun _ _ _ _ r h => by simp [lockkeeperref1_Digits.j1] at h⟩
 | k + 1 => by
  obtain ⟨ih0,ih1⟩:=lockkeeperref1_Digits.mono_l k
  refine ⟨?_,?_⟩
  ·intro y0 y1 y2
   unfold lockkeeperref1_Digits.l0
   repeat' first
   | (with_reducible exact ih0 _ _ _)
   | (with_reducible exact ih1 _ _ _ _)
   | (with_reducible exact LeO.refl _)
   | (with_reducible exact LeO.none _)
   | (with_reducible refine LeO.ite ?_ ?_)
   | (with_reducible refine LeO.bind ?_ (fun _ => ?_))
   | exact ih0 _ _ _
   | exact ih1 _ _ _ _
   | exact LeO.none _
   | refine LeO.ite ?_ ?_
   | refine LeO.bind ?_ (fun _ => ?_)
  ·intro y0 y1 y2 y3
   unfold lockkeeperref1_Digits.j1
   repeat' first
   | (with_reducible exact ih0 _ _ _)
   | (with_reducible exact ih1 _ _ _ _)
   | (with_reducible exact LeO.refl _)
   | (with_reducible exact LeO.none _)
   | (with_reducible refine LeO.ite ?_ ?_)
   | (with_reducible refine LeO.bind ?_ (fun _ => ?_))
   | exact ih0 _ _ _
   | exact ih1 _ _ _ _
   | exact LeO.none _
   | refine LeO.ite ?_ ?_
   | refine LeO.bind ?_ (fun _ => ?_)
theorem lockkeeperref1_Digits.mono : ∀ a0 k,LeO (lockkeeperref1_Digits.f k a0) (lockkeeperref1_Digits.f (k + 1) a0):=by
 intro a0 k
 obtain ⟨ih0,ih1⟩:=lockkeeperref1_Digits.mono_l k
 unfold lockkeeperref1_Digits.f
 repeat' first
   | (with_reducible exact ih0 _ _ _)
   | (with_reducible exact ih1 _ _ _ _)
   | (with_reducible exact LeO.refl _)
   | (with_reducible exact LeO.none _)
   | (with_reducible refine LeO.ite ?_ ?_)
   | (with_reducible refine LeO.bind ?_ (fun _ => ?_))
   | exact ih0 _ _ _
   | exact ih1 _ _ _ _
   | exact LeO.none _
   | refine LeO.ite ?_ ?_
   | refine LeO.bind ?_ (fun _ => ?_)
set_option maxHeartbeats 8000000 in
set_option maxRecDepth 100000 in
theorem lockkeeperref1_Digits.calls (k : Nat) (a0 : ByteArray) (r1 : Int) (r2 : Bool) (w : World) (h : lockkeeperref1_Digits.f k a0 = some (r1,r2)) :
  Calls Tryd.prog 67 #[.string a0] w fun e w' => e = .returned (.tuple #[.int .u64 r1,.bool r2]) ∧ Drawn0 w w':=by
 have H : (lockkeeperref1_Digits.l0 k a0 0 0) = some (r1,r2):=h
 clear h
 have H':=Aside0.mk H
 clear H
 go_enter Tryd.func67,Tryd.ntmps67
 go_wp2
 go_loopg [4,5] k (fun kq v4 v5 w' => ∃ (x4_1 : Int) (x5_1 : Int),v4 = .int .u64 x4_1 ∧ v5 = .int .i64 x5_1 ∧ Aside0 (lockkeeperref1_Digits.l0 kq a0 x4_1 x5_1 = some (r1,r2)) ∧ Aside0 (kq ≤ k) ∧ Drawn0 w w')
 case atStart => exact ⟨(0),(0),(by first|rfl|(simp;done)|(simp [*];done)),(by first|rfl|(simp;done)|(simp [*];done)),H',⟨Nat.le_refl _⟩,by repeat (first|exact Drawn0.refl _|apply Drawn0.step)⟩
 case round =>
  clear H'
  obtain ⟨x4_1,x5_1,rfl,rfl,HA,HK1,⟨m1,rfl⟩⟩:=hrel
  cases gk with
  | zero => exact absurd HA.out (by simp [lockkeeperref1_Digits.l0])
  | succ k1 =>
   have H:=HA.out
   clear HA
   simp only [lockkeeperref1_Digits.l0] at H
   by_cases c2 : x5_1 < (a0.size : Int)
   ·rw [if_pos c2] at H
    have c2b0 : decide (x5_1 < (a0.size : Int)) = true:=decide_eq_true c2
    clear c2
    have HC3:=Aside0.mk H
    clear H
    go_upto_region 5 with (fail)
    go_cut [22] (fun v22 wc => ∃ (kq : Nat) (x22_2 : Bool),v22 = .bool x22_2 ∧ Aside0 (lockkeeperref1_Digits.j1 kq a0 x4_1 x5_1 x22_2 = some (r1,r2)) ∧ Aside0 (kq ≤ k1) ∧ Drawn0 w wc)
    case first =>
     have H:=HC3.out
     clear HC3
     by_cases c4 : 0 ≤ x5_1
     ·rw [if_pos c4] at H
      have c4b0 : decide (0 ≤ x5_1) = true:=decide_eq_true c4
      clear c4
      (first|rw [c4b0]|(simp only [i64_w,i32_w];rw [c4b0])|skip)
      by_cases c6 : (bt a0 x5_1) < 48
      ·rw [if_pos c6] at H
       have c6b0 : decide ((bt a0 x5_1) < 48) = true:=decide_eq_true c6
       clear c6
       have H':=Aside0.mk H
       clear H
       have p5 : 0 ≤ (x5_1 : Int):=of_decide_eq_true (by first|(with_reducible assumption)|assumption)
       have q5 : x5_1 < (a0.size : Int):=of_decide_eq_true (by first|(with_reducible assumption)|assumption)
       have hx5:=bt_at a0 x5_1
       replace p5:=eq_true p5
       replace q5:=eq_true q5
       go_wp2
       go_meet
       case rel => exact ⟨_,(true),(by first|rfl|(simp;done)|(simp [*];done)),H',⟨by have:=HK1.out;first|omega|exact Nat.le_refl _⟩,by repeat (first|exact Drawn0.refl _|apply Drawn0.step)⟩
      ·rw [if_neg c6] at H
       have c6b0 : decide ((bt a0 x5_1) < 48) = false:=decide_eq_false c6
       clear c6
       have H':=Aside0.mk H
       clear H
       have p5 : 0 ≤ (x5_1 : Int):=of_decide_eq_true (by first|(with_reducible assumption)|assumption)
       have q5 : x5_1 < (a0.size : Int):=of_decide_eq_true (by first|(with_reducible assumption)|assumption)
       have hx5:=bt_at a0 x5_1
       replace p5:=eq_true p5
       replace q5:=eq_true q5
       have p7 : 0 ≤ (x5_1 : Int):=of_decide_eq_true (by first|(with_reducible assumption)|assumption)
       have q7 : x5_1 < (a0.size : Int):=of_decide_eq_true (by first|(with_reducible assumption)|assumption)
       have hx7:=bt_at a0 x5_1
       replace p7:=eq_true p7
       replace q7:=eq_true q7
       go_wp2
       go_meet
       case rel => exact ⟨_,(decide ((bt a0 x5_1) > 57)),(by first|rfl|(simp;done)|(simp [*];done)),H',⟨by have:=HK1.out;first|omega|exact Nat.le_refl _⟩,by repeat (first|exact Drawn0.refl _|apply Drawn0.step)⟩
     ·rw [if_neg c4] at H
      exact absurd H (by simp)
    case rest =>
     clear HC3
     try clear c2
     try clear c2b0
     try clear p2
     try clear c4
     try clear c4b0
     try clear p5
     try clear q5
     try clear hx5
     try clear c6
     try clear c6b0
     try clear p7
     try clear q7
     try clear hx7
     try clear p5
     try clear p7
     try clear q5
     try clear q7
     obtain ⟨kq,x22_2,rfl,HA,HJ2,⟨mc2,rfl⟩⟩:=hcut
     cases kq with
     | zero => exact absurd HA.out (by simp [lockkeeperref1_Digits.j1])
     | succ kj2 =>
      have H:=HA.out
      clear HA
      simp only [lockkeeperref1_Digits.j1] at H
      by_cases c8 : x22_2 = true
      ·subst c8
       have H1 : (some (0,false)) = some (r1,r2):=by rw [if_pos rfl] at H;exact H
       clear H
       have H:=H1
       clear H1
       simp only [Option.some.injEq,Prod.mk.injEq] at H
       obtain ⟨rfl,rfl⟩:=H
       go_wp2
       go_ret2
       exact ⟨by first|rfl|(simp;done)|(simp [*];done),by repeat (first|exact Drawn0.refl _|apply Drawn0.step)⟩
      ·replace c8:=Bool.eq_false_iff.mpr c8
       subst c8
       have H1 : (if 0 ≤ x5_1 then (if x5_1 < (a0.size : Int) then (if x4_1 > ((18446744073709551615 - (((bt a0 x5_1) - 48) % 256)) / 10) then (lockkeeperref1_Digits.l0 kj2 a0 18446744073709551615 (wrap64 (x5_1 + 1))) else (lockkeeperref1_Digits.l0 kj2 a0 (IntKind.u64.wrap ((IntKind.u64.wrap (10 * x4_1)) + (((bt a0 x5_1) - 48) % 256))) (wrap64 (x5_1 + 1)))) else (none)) else (none)) = some (r1,r2):=by rw [if_neg (show ¬ (false = true) by decide)] at H;exact H
       clear H
       have H:=H1
       clear H1
       by_cases c9 : 0 ≤ x5_1
       ·rw [if_pos c9] at H
        have c9b0 : decide (0 ≤ x5_1) = true:=decide_eq_true c9
        clear c9
        by_cases c10 : x5_1 < (a0.size : Int)
        ·rw [if_pos c10] at H
         have c10b0 : decide (x5_1 < (a0.size : Int)) = true:=decide_eq_true c10
         clear c10
         by_cases c12 : x4_1 > ((18446744073709551615 - (((bt a0 x5_1) - 48) % 256)) / 10)
         ·rw [if_pos c12] at H
          have c12b0 : decide (((18446744073709551615 - (((bt a0 x5_1) - 48) % 256)) / 10) < x4_1) = true:=decide_eq_true c12
          clear c12
          have H':=Aside0.mk H
          clear H
          have p11 : 0 ≤ (x5_1 : Int):=of_decide_eq_true (by first|(with_reducible assumption)|assumption)
          have q11 : x5_1 < (a0.size : Int):=of_decide_eq_true (by first|(with_reducible assumption)|assumption)
          have hx11:=bt_at a0 x5_1
          replace p11:=eq_true p11
          replace q11:=eq_true q11
          go_wp2
          go_roundg kj2
          case measure => have:=HK1.out;have:=HJ2.out;omega
          case rel => exact ⟨(18446744073709551615),(wrap64 (x5_1 + 1)),(by first|rfl|(simp;done)|(simp [*];done)),(by first|rfl|(simp;done)|(simp [*];done)),H',⟨by have:=HK1.out;have:=HJ2.out;omega⟩,by repeat (first|exact Drawn0.refl _|apply Drawn0.step)⟩
         ·rw [if_neg c12] at H
          have c12b0 : decide (((18446744073709551615 - (((bt a0 x5_1) - 48) % 256)) / 10) < x4_1) = false:=decide_eq_false c12
          clear c12
          have H':=Aside0.mk H
          clear H
          have p11 : 0 ≤ (x5_1 : Int):=of_decide_eq_true (by first|(with_reducible assumption)|assumption)
          have q11 : x5_1 < (a0.size : Int):=of_decide_eq_true (by first|(with_reducible assumption)|assumption)
          have hx11:=bt_at a0 x5_1
          replace p11:=eq_true p11
          replace q11:=eq_true q11
          go_wp2
          go_roundg kj2
          case measure => have:=HK1.out;have:=HJ2.out;omega
          case rel => exact ⟨(IntKind.u64.wrap ((IntKind.u64.wrap (10 * x4_1)) + (((bt a0 x5_1) - 48) % 256))),(wrap64 (x5_1 + 1)),(by first|rfl|(simp;done)|(simp [*];done)),(by first|rfl|(simp;done)|(simp [*];done)),H',⟨by have:=HK1.out;have:=HJ2.out;omega⟩,by repeat (first|exact Drawn0.refl _|apply Drawn0.step)⟩
        ·rw [if_neg c10] at H
         exact absurd H (by simp)
       ·rw [if_neg c9] at H
        exact absurd H (by simp)
   ·rw [if_neg c2] at H
    have c2b0 : decide (x5_1 < (a0.size : Int)) = false:=decide_eq_false c2
    clear c2
    simp only [Option.some.injEq,Prod.mk.injEq] at H
    obtain ⟨rfl,rfl⟩:=H
    go_wp2
    go_ret2
    exact ⟨by first|rfl|(simp;done)|(simp [*];done),by repeat (first|exact Drawn0.refl _|apply Drawn0.step)⟩

/-! ### lockkeeperref1_Count: function 48 -/
def lockkeeperref1_Count.f (k : Nat) (a0 : ByteArray) (a1 : Int) : Option (Int × Bool):=(lockkeeperref1_Digits.f k a0).bind fun bt211 => (if bt211.2 = true then (if (a0.size : Int) > 20 then (some (0,false)) else ((lockkeeperref1_Num.f k bt211.1).bind fun t213 => (if t213.toList = a0.toList then (if bt211.1 > a1 then (some (0,false)) else (some (bt211.1,true))) else (some (0,false))))) else (some (0,false)))
theorem lockkeeperref1_Count.mono : ∀ a0 a1 k,LeO (lockkeeperref1_Count.f k a0 a1) (lockkeeperref1_Count.f (k + 1) a0 a1):=by
 intro a0 a1 k
 unfold lockkeeperref1_Count.f
 repeat' first
   | (with_reducible exact lockkeeperref1_Digits.mono _ _)
   | (with_reducible exact lockkeeperref1_Num.mono _ _)
   | (with_reducible exact LeO.refl _)
   | (with_reducible exact LeO.none _)
   | (with_reducible refine LeO.ite ?_ ?_)
   | (with_reducible refine LeO.bind ?_ (fun _ => ?_))
   | exact lockkeeperref1_Digits.mono _ _
   | exact lockkeeperref1_Num.mono _ _
   | exact LeO.none _
   | refine LeO.ite ?_ ?_
   | refine LeO.bind ?_ (fun _ => ?_)
set_option maxHeartbeats 8000000 in
set_option maxRecDepth 100000 in
theorem lockkeeperref1_Count.calls (k : Nat) (a0 : ByteArray) (a1 : Int) (r1 : Int) (r2 : Bool) (w : World) (h : lockkeeperref1_Count.f k a0 a1 = some (r1,r2)) :
  Calls Tryd.prog 48 #[.string a0,.int .u64 a1] w fun e w' => e = .returned (.tuple #[.int .u64 r1,.bool r2]) ∧ Drawn0 w w':=by
 have H : ((lockkeeperref1_Digits.f k a0).bind fun bt211 => (if bt211.2 = true then (if (a0.size : Int) > 20 then (some (0,false)) else ((lockkeeperref1_Num.f k bt211.1).bind fun t213 => (if t213.toList = a0.toList then (if bt211.1 > a1 then (some (0,false)) else (some (bt211.1,true))) else (some (0,false))))) else (some (0,false)))) = some (r1,r2):=h
 clear h
 replace H:=Option.bind_eq_some_iff.mp H
 obtain ⟨⟨t211,t212⟩,A30,H⟩:=H
 replace H : (if t212 = true then (if (a0.size : Int) > 20 then (some (0,false)) else ((lockkeeperref1_Num.f k t211).bind fun t213 => (if t213.toList = a0.toList then (if t211 > a1 then (some (0,false)) else (some (t211,true))) else (some (0,false))))) else (some (0,false))) = some (r1,r2):=H
 have A3:=Aside0.mk A30
 clear A30
 by_cases c4 : t212 = true
 ·subst c4
  have H1 : (if (a0.size : Int) > 20 then (some (0,false)) else ((lockkeeperref1_Num.f k t211).bind fun t213 => (if t213.toList = a0.toList then (if t211 > a1 then (some (0,false)) else (some (t211,true))) else (some (0,false))))) = some (r1,r2):=by rw [if_pos rfl] at H;exact H
  clear H
  have H:=H1
  clear H1
  by_cases c5 : (a0.size : Int) > 20
  ·rw [if_pos c5] at H
   have c5b0 : decide (20 < (a0.size : Int)) = true:=decide_eq_true c5
   have c5b1 : decide (20 < a0.size) = true:=decide_eq_true (by omega)
   clear c5
   simp only [Option.some.injEq,Prod.mk.injEq] at H
   obtain ⟨rfl,rfl⟩:=H
   go_enter Tryd.func48,Tryd.ntmps48
   go_wp2_with (first|((with_reducible refine gate_callee (f:=67) rfl ?_);refine goesL_ (some 10) rfl rfl Tryd.func67 (by kernel_rfl) rfl #[.string a0] rfl (by (try simp only [List.map_toArray,List.map_cons,List.map_nil]);first|done|rfl|(simp only [List.length_drop,List.length_take];rfl)) ?_;(with_reducible refine (lockkeeperref1_Digits.calls k a0 t211 true _ A3.out).mono ?_);rintro e w' ⟨rfl,⟨nd,rfl⟩⟩;refine ⟨_,rfl,?_⟩))
   go_ret2
   exact ⟨by first|rfl|(simp;done)|(simp [*];done),by repeat (first|exact Drawn0.refl _|apply Drawn0.step)⟩
  ·rw [if_neg c5] at H
   have c5b0 : decide (20 < (a0.size : Int)) = false:=decide_eq_false c5
   have c5b1 : decide (20 < a0.size) = false:=decide_eq_false (by omega)
   clear c5
   replace H:=Option.bind_eq_some_iff.mp H
   obtain ⟨t213,A60,H⟩:=H
   replace H : (if t213.toList = a0.toList then (if t211 > a1 then (some (0,false)) else (some (t211,true))) else (some (0,false))) = some (r1,r2):=H
   have A6:=Aside0.mk A60
   clear A60
   by_cases c7 : t213.toList = a0.toList
   ·rw [if_pos c7] at H
    have c7b0 : (t213.toList == a0.toList) = true:=beq_iff_eq.mpr c7
    have c7b1 : (t213.toList != a0.toList) = false:=bne_eq_false_iff_eq.mpr c7
    clear c7
    by_cases c8 : t211 > a1
    ·rw [if_pos c8] at H
     have c8b0 : decide (a1 < t211) = true:=decide_eq_true c8
     clear c8
     simp only [Option.some.injEq,Prod.mk.injEq] at H
     obtain ⟨rfl,rfl⟩:=H
     go_enter Tryd.func48,Tryd.ntmps48
     go_wp2_with (first|((with_reducible refine gate_callee (f:=67) rfl ?_);refine goesL_ (some 10) rfl rfl Tryd.func67 (by kernel_rfl) rfl #[.string a0] rfl (by (try simp only [List.map_toArray,List.map_cons,List.map_nil]);first|done|rfl|(simp only [List.length_drop,List.length_take];rfl)) ?_;(with_reducible refine (lockkeeperref1_Digits.calls k a0 t211 true _ A3.out).mono ?_);rintro e w' ⟨rfl,⟨nd,rfl⟩⟩;refine ⟨_,rfl,?_⟩)|(go_at_call 32;(with_reducible refine (lockkeeperref1_Num.calls k t211 t213 _ A6.out).mono ?_);rintro e w' ⟨rfl,⟨nd,rfl⟩⟩))
     go_ret2
     exact ⟨by first|rfl|(simp;done)|(simp [*];done),by repeat (first|exact Drawn0.refl _|apply Drawn0.step)⟩
    ·rw [if_neg c8] at H
     have c8b0 : decide (a1 < t211) = false:=decide_eq_false c8
     clear c8
     simp only [Option.some.injEq,Prod.mk.injEq] at H
     obtain ⟨rfl,rfl⟩:=H
     go_enter Tryd.func48,Tryd.ntmps48
     go_wp2_with (first|((with_reducible refine gate_callee (f:=67) rfl ?_);refine goesL_ (some 10) rfl rfl Tryd.func67 (by kernel_rfl) rfl #[.string a0] rfl (by (try simp only [List.map_toArray,List.map_cons,List.map_nil]);first|done|rfl|(simp only [List.length_drop,List.length_take];rfl)) ?_;(with_reducible refine (lockkeeperref1_Digits.calls k a0 t211 true _ A3.out).mono ?_);rintro e w' ⟨rfl,⟨nd,rfl⟩⟩;refine ⟨_,rfl,?_⟩)|(go_at_call 32;(with_reducible refine (lockkeeperref1_Num.calls k t211 t213 _ A6.out).mono ?_);rintro e w' ⟨rfl,⟨nd,rfl⟩⟩))
     go_ret2
     exact ⟨by first|rfl|(simp;done)|(simp [*];done),by repeat (first|exact Drawn0.refl _|apply Drawn0.step)⟩
   ·rw [if_neg c7] at H
    have c7b0 : (t213.toList == a0.toList) = false:=beq_eq_false_iff_ne.mpr c7
    have c7b1 : (t213.toList != a0.toList) = true:=bne_iff_ne.mpr c7
    simp only [Option.some.injEq,Prod.mk.injEq] at H
    obtain ⟨rfl,rfl⟩:=H
    go_enter Tryd.func48,Tryd.ntmps48
    go_wp2_with (first|((with_reducible refine gate_callee (f:=67) rfl ?_);refine goesL_ (some 10) rfl rfl Tryd.func67 (by kernel_rfl) rfl #[.string a0] rfl (by (try simp only [List.map_toArray,List.map_cons,List.map_nil]);first|done|rfl|(simp only [List.length_drop,List.length_take];rfl)) ?_;(with_reducible refine (lockkeeperref1_Digits.calls k a0 t211 true _ A3.out).mono ?_);rintro e w' ⟨rfl,⟨nd,rfl⟩⟩;refine ⟨_,rfl,?_⟩)|(go_at_call 32;(with_reducible refine (lockkeeperref1_Num.calls k t211 t213 _ A6.out).mono ?_);rintro e w' ⟨rfl,⟨nd,rfl⟩⟩))
    go_ret2
    exact ⟨by first|rfl|(simp;done)|(simp [*];done),by repeat (first|exact Drawn0.refl _|apply Drawn0.step)⟩
 ·replace c4:=Bool.eq_false_iff.mpr c4
  subst c4
  have H1 : (some (0,false)) = some (r1,r2):=by rw [if_neg (show ¬ (false = true) by decide)] at H;exact H
  clear H
  have H:=H1
  clear H1
  simp only [Option.some.injEq,Prod.mk.injEq] at H
  obtain ⟨rfl,rfl⟩:=H
  go_enter Tryd.func48,Tryd.ntmps48
  go_wp2_with (first|((with_reducible refine gate_callee (f:=67) rfl ?_);refine goesL_ (some 10) rfl rfl Tryd.func67 (by kernel_rfl) rfl #[.string a0] rfl (by (try simp only [List.map_toArray,List.map_cons,List.map_nil]);first|done|rfl|(simp only [List.length_drop,List.length_take];rfl)) ?_;(with_reducible refine (lockkeeperref1_Digits.calls k a0 t211 false _ A3.out).mono ?_);rintro e w' ⟨rfl,⟨nd,rfl⟩⟩;refine ⟨_,rfl,?_⟩))
  go_ret2
  exact ⟨by first|rfl|(simp;done)|(simp [*];done),by repeat (first|exact Drawn0.refl _|apply Drawn0.step)⟩

end Go.Proofs.YtbfbidifodcedaaDoor.Pr
