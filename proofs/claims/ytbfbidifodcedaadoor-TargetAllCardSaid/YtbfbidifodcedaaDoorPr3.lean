-- Made by a program of this session (wip/xp/xp.py), over the print's words.
import Derived.Test.YtbfbidifodcedaaDoorPr0
import Derived.Test.YtbfbidifodcedaaDoorPr2
import Derived.Test.YtbfbidifodcedaaDoorG1
import Derived.Test.YtbfbidifodcedaaDoorG2
import Derived.Test.YtbfbidifodcedaaDoorG4
import Derived.Test.YtbfbidifodcedaaDoorG5
import Derived.Test.YtbfbidifodcedaaDoorG0
namespace Go.Proofs.YtbfbidifodcedaaDoor.Pr
open Go.RowKit Go.Proofs.YtbfbidifodcedaaDoorW.PrintWords Go.Proofs.YtbfbidifodcedaaDoorW.PrintLast Go.Proofs.YtbfbidifodcedaaDoorW.PrintMore
attribute [local go_sem] max2_int min2_int max_two min_two max_three min_three max_four min_four   -- for this text's walks alone
set_option linter.unusedVariables false
set_option linter.unusedSimpArgs false

abbrev target_dots_b0 : Array Bool:=#[false,false,false,false,false,false,false,false,false,false]
abbrev target_dots_b1 : Array Bool:=#[true,false,false,false,false,false,false,false,false,false]
abbrev target_dots_b2 : Array Bool:=#[true,true,false,false,false,false,false,false,false,false]
abbrev target_dots_b3 : Array Bool:=#[true,true,true,false,false,false,false,false,false,false]
abbrev target_dots_b4 : Array Bool:=#[true,true,true,true,false,false,false,false,false,false]
abbrev target_dots_b5 : Array Bool:=#[true,true,true,true,false,true,false,false,false,false]
abbrev target_dots_b6 : Array Bool:=#[true,true,true,true,true,true,false,false,false,false]
abbrev target_dots_b7 : Array Bool:=#[true,true,true,true,true,true,true,false,false,false]
abbrev target_dots_b8 : Array Bool:=#[true,true,true,true,true,true,true,true,false,false]
abbrev target_dots_b9 : Array Bool:=#[true,true,true,true,true,true,true,true,true,false]
abbrev target_dots_b10 : Array Bool:=#[true,true,true,true,true,true,true,true,true,true]
/-! ### target_dots: function 60 -/
def target_dots.j0 : Nat → ByteArray → Bool → Option (Int)
 | 0,_,_ => none
 | k + 1,x4,x5 => if x5 = true then (some 1) else (if x4.toList = ([46,46] : List UInt8) then (some 2) else (if x4.toList = ([46,37,50,101] : List UInt8) then (some 2) else (if x4.toList = ([37,50,101,46] : List UInt8) then (some 2) else (if x4.toList = ([37,50,101,37,50,101] : List UInt8) then (some 2) else (some 0)))))
def target_dots.f (k : Nat) (a0 : ByteArray) : Option (Int):=(octet_Lower.f a0).bind fun t129 => (if t129.toList = ([46] : List UInt8) then (target_dots.j0 k t129 (t129.toList == ([46] : List UInt8))) else (target_dots.j0 k t129 (t129.toList == ([37,50,101] : List UInt8))))
theorem target_dots.mono_l : ∀ k,(∀ y0 y1,LeO (target_dots.j0 k y0 y1) (target_dots.j0 (k + 1) y0 y1))
 | 0 => fun _ _ r h => by simp [target_dots.j0] at h
 | k + 1 => by
  have ih0:=target_dots.mono_l k
  ·intro y0 y1
   unfold target_dots.j0
   repeat' first
   | (with_reducible exact ih0 _ _)
   | (with_reducible exact LeO.refl _)
   | (with_reducible exact LeO.none _)
   | (with_reducible refine LeO.ite ?_ ?_)
   | (with_reducible refine LeO.bind ?_ (fun _ => ?_))
   | exact ih0 _ _
   | exact LeO.none _
   | refine LeO.ite ?_ ?_
   | refine LeO.bind ?_ (fun _ => ?_)
theorem target_dots.mono : ∀ a0 k,LeO (target_dots.f k a0) (target_dots.f (k + 1) a0):=by
 intro a0 k
 have ih0:=target_dots.mono_l k
 unfold target_dots.f
 repeat' first
   | (with_reducible exact ih0 _ _)
   | (with_reducible exact LeO.refl _)
   | (with_reducible exact LeO.none _)
   | (with_reducible refine LeO.ite ?_ ?_)
   | (with_reducible refine LeO.bind ?_ (fun _ => ?_))
   | exact ih0 _ _
   | exact LeO.none _
   | refine LeO.ite ?_ ?_
   | refine LeO.bind ?_ (fun _ => ?_)
set_option maxHeartbeats 8000000 in
set_option maxRecDepth 100000 in
theorem target_dots.calls (k : Nat) (a0 : ByteArray) (r : Int) (w : World) (h : target_dots.f k a0 = some r) :
  Calls Tryd.prog 60 #[.string a0] w fun e w' => e = .returned (.int .i64 r) ∧ Below w.heap.size w w':=by
 have HB:=Aside0.mk (Below.refl w.heap.size w)
 have H : ((octet_Lower.f a0).bind fun t129 => (if t129.toList = ([46] : List UInt8) then (target_dots.j0 k t129 (t129.toList == ([46] : List UInt8))) else (target_dots.j0 k t129 (t129.toList == ([37,50,101] : List UInt8))))) = some r:=h
 clear h
 replace H:=Option.bind_eq_some_iff.mp H
 obtain ⟨t129,A20,H⟩:=H
 replace H : (if t129.toList = ([46] : List UInt8) then (target_dots.j0 k t129 (t129.toList == ([46] : List UInt8))) else (target_dots.j0 k t129 (t129.toList == ([37,50,101] : List UInt8)))) = some r:=H
 have A2:=Aside0.mk A20
 clear A20
 have HC3:=Aside0.mk H
 clear H
 go_enter Tryd.func60,Tryd.ntmps60
 go_upto_if 5 with (first|((with_reducible refine gate_callee (f:=45) rfl ?_);refine goesL_ (some 4) rfl rfl Tryd.func45 (by kernel_rfl) rfl #[.string a0] rfl (by (try simp only [List.map_toArray,List.map_cons,List.map_nil]);first|done|rfl|(simp only [List.length_drop,List.length_take];rfl)) ?_;(with_reducible refine (octet_Lower.calls a0 t129 _ A2.out).mono ?_);rintro e w4 ⟨rfl,hb⟩;refine ⟨_,rfl,?_⟩;have n0_:=Aside0.mk (below_step (by repeat (first|(with_reducible first|exact HB.out|apply below_alloc|apply pw_below_drewN|apply below_drew1)|exact HB.out)) hb);clear HB;have HB:=n0_;clear n0_;(try clear hb);(try clear hb2);(try clear hk);(try clear hi)))
 (try simp only [Act.put,List.setIfInBounds_toArray,List.set_cons_zero,List.set_cons_succ])
 go_cut [5] (fun v5 wc => ∃ (kq : Nat) (x5_2 : Bool),v5 = .bool x5_2 ∧ Aside0 (target_dots.j0 kq t129 x5_2 = some r) ∧ Aside0 (kq ≤ k) ∧ Aside0 (Below w.heap.size w wc))
 case first =>
  have H:=HC3.out
  clear HC3
  by_cases c5 : t129.toList = ([46] : List UInt8)
  ·rw [if_pos c5] at H
   have c5b0 : (t129.toList == ([46] : List UInt8)) = true:=beq_iff_eq.mpr c5
   have c5b1 : (t129.toList != ([46] : List UInt8)) = false:=bne_eq_false_iff_eq.mpr c5
   clear c5
   (first|rw [c5b0]|(simp only [i64_w,i32_w];rw [c5b0])|skip)
   have H':=Aside0.mk H
   clear H
   go_wp2
   go_meet
   case rel => exact ⟨_,((t129.toList == ([46] : List UInt8))),(by first|rfl|(simp;done)|(simp [*];done)),H',⟨by first|omega|exact Nat.le_refl _⟩,⟨by repeat (first|(with_reducible first|exact HB.out|apply below_alloc|apply pw_below_drewN|apply below_drew1)|exact HB.out)⟩⟩
  ·rw [if_neg c5] at H
   have c5b0 : (t129.toList == ([46] : List UInt8)) = false:=beq_eq_false_iff_ne.mpr c5
   have c5b1 : (t129.toList != ([46] : List UInt8)) = true:=bne_iff_ne.mpr c5
   (first|rw [c5b0]|(simp only [i64_w,i32_w];rw [c5b0])|skip)
   have H':=Aside0.mk H
   clear H
   go_wp2
   go_meet
   case rel => exact ⟨_,((t129.toList == ([37,50,101] : List UInt8))),(by first|rfl|(simp;done)|(simp [*];done)),H',⟨by first|omega|exact Nat.le_refl _⟩,⟨by repeat (first|(with_reducible first|exact HB.out|apply below_alloc|apply pw_below_drewN|apply below_drew1)|exact HB.out)⟩⟩
 case rest =>
  clear HC3
  try clear p2
  try clear c4
  try clear c5
  try clear c5b0
  try clear c5b1
  obtain ⟨kq,x5_2,rfl,HA,HJ2,HB⟩:=hcut
  cases kq with
  | zero => exact absurd HA.out (by simp [target_dots.j0])
  | succ kj2 =>
   have H:=HA.out
   clear HA
   simp only [target_dots.j0] at H
   by_cases c6 : x5_2 = true
   ·subst c6
    have H1 : (some 1) = some r:=by rw [if_pos rfl] at H;exact H
    clear H
    have H:=H1
    clear H1
    obtain rfl:=Option.some.inj H
    go_wp2
    go_ret
    exact ⟨by first|rfl|(simp [errW_none,errW_some] <;> rfl)|(simp [*,errW_none,errW_some] <;> rfl),by repeat (first|(with_reducible first|exact HB.out|apply below_alloc|apply pw_below_drewN|apply below_drew1)|exact HB.out)⟩
   ·replace c6:=Bool.eq_false_iff.mpr c6
    subst c6
    have H1 : (if t129.toList = ([46,46] : List UInt8) then (some 2) else (if t129.toList = ([46,37,50,101] : List UInt8) then (some 2) else (if t129.toList = ([37,50,101,46] : List UInt8) then (some 2) else (if t129.toList = ([37,50,101,37,50,101] : List UInt8) then (some 2) else (some 0))))) = some r:=by rw [if_neg (show ¬ (false = true) by decide)] at H;exact H
    clear H
    have H:=H1
    clear H1
    by_cases c7 : t129.toList = ([46,46] : List UInt8)
    ·rw [if_pos c7] at H
     have c7b0 : (t129.toList == ([46,46] : List UInt8)) = true:=beq_iff_eq.mpr c7
     have c7b1 : (t129.toList != ([46,46] : List UInt8)) = false:=bne_eq_false_iff_eq.mpr c7
     clear c7
     obtain rfl:=Option.some.inj H
     go_wp2
     go_ret
     exact ⟨by first|rfl|(simp [errW_none,errW_some] <;> rfl)|(simp [*,errW_none,errW_some] <;> rfl),by repeat (first|(with_reducible first|exact HB.out|apply below_alloc|apply pw_below_drewN|apply below_drew1)|exact HB.out)⟩
    ·rw [if_neg c7] at H
     have c7b0 : (t129.toList == ([46,46] : List UInt8)) = false:=beq_eq_false_iff_ne.mpr c7
     have c7b1 : (t129.toList != ([46,46] : List UInt8)) = true:=bne_iff_ne.mpr c7
     by_cases c8 : t129.toList = ([46,37,50,101] : List UInt8)
     ·rw [if_pos c8] at H
      have c8b0 : (t129.toList == ([46,37,50,101] : List UInt8)) = true:=beq_iff_eq.mpr c8
      have c8b1 : (t129.toList != ([46,37,50,101] : List UInt8)) = false:=bne_eq_false_iff_eq.mpr c8
      clear c8
      obtain rfl:=Option.some.inj H
      go_wp2
      go_ret
      exact ⟨by first|rfl|(simp [errW_none,errW_some] <;> rfl)|(simp [*,errW_none,errW_some] <;> rfl),by repeat (first|(with_reducible first|exact HB.out|apply below_alloc|apply pw_below_drewN|apply below_drew1)|exact HB.out)⟩
     ·rw [if_neg c8] at H
      have c8b0 : (t129.toList == ([46,37,50,101] : List UInt8)) = false:=beq_eq_false_iff_ne.mpr c8
      have c8b1 : (t129.toList != ([46,37,50,101] : List UInt8)) = true:=bne_iff_ne.mpr c8
      by_cases c9 : t129.toList = ([37,50,101,46] : List UInt8)
      ·rw [if_pos c9] at H
       have c9b0 : (t129.toList == ([37,50,101,46] : List UInt8)) = true:=beq_iff_eq.mpr c9
       have c9b1 : (t129.toList != ([37,50,101,46] : List UInt8)) = false:=bne_eq_false_iff_eq.mpr c9
       clear c9
       obtain rfl:=Option.some.inj H
       go_wp2
       go_ret
       exact ⟨by first|rfl|(simp [errW_none,errW_some] <;> rfl)|(simp [*,errW_none,errW_some] <;> rfl),by repeat (first|(with_reducible first|exact HB.out|apply below_alloc|apply pw_below_drewN|apply below_drew1)|exact HB.out)⟩
      ·rw [if_neg c9] at H
       have c9b0 : (t129.toList == ([37,50,101,46] : List UInt8)) = false:=beq_eq_false_iff_ne.mpr c9
       have c9b1 : (t129.toList != ([37,50,101,46] : List UInt8)) = true:=bne_iff_ne.mpr c9
       by_cases c10 : t129.toList = ([37,50,101,37,50,101] : List UInt8)
       ·rw [if_pos c10] at H
        have c10b0 : (t129.toList == ([37,50,101,37,50,101] : List UInt8)) = true:=beq_iff_eq.mpr c10
        have c10b1 : (t129.toList != ([37,50,101,37,50,101] : List UInt8)) = false:=bne_eq_false_iff_eq.mpr c10
        clear c10
        obtain rfl:=Option.some.inj H
        go_wp2
        go_ret
        exact ⟨by first|rfl|(simp [errW_none,errW_some] <;> rfl)|(simp [*,errW_none,errW_some] <;> rfl),by repeat (first|(with_reducible first|exact HB.out|apply below_alloc|apply pw_below_drewN|apply below_drew1)|exact HB.out)⟩
       ·rw [if_neg c10] at H
        have c10b0 : (t129.toList == ([37,50,101,37,50,101] : List UInt8)) = false:=beq_eq_false_iff_ne.mpr c10
        have c10b1 : (t129.toList != ([37,50,101,37,50,101] : List UInt8)) = true:=bne_iff_ne.mpr c10
        obtain rfl:=Option.some.inj H
        go_wp2
        go_ret
        exact ⟨by first|rfl|(simp [errW_none,errW_some] <;> rfl)|(simp [*,errW_none,errW_some] <;> rfl),by repeat (first|(with_reducible first|exact HB.out|apply below_alloc|apply pw_below_drewN|apply below_drew1)|exact HB.out)⟩

/-! ### target_Clean: function 36 -/
def target_Clean.l0 : Nat → List ByteArray → List ByteArray → List ByteArray → Int → Int → Option (ByteArray)
 | 0,_,_,_,_,_ => none
 | k + 1,x3,x4,x10,x11,x12 => if x12 < x11 then (if 0 ≤ x12 then (if x12 < (x10.length : Int) then ((target_dots.f k (rdOf ByteArray.empty x10 x12)).bind fun t135 => (if t135 = 0 then (if x4.length < 8796093022208 then (target_Clean.l0 k x3 (x4 ++ [rdOf ByteArray.empty x10 x12]) x10 x11 (wrap64 (x12 + 1))) else (none)) else (if t135 = 2 then (if 0 ≤ (mx (wrap64 ((x4.length : Int) - 1)) 0) then (if (mx (wrap64 ((x4.length : Int) - 1)) 0) ≤ (x4.length : Int) then (target_Clean.l0 k x3 (x4.take ((mx (wrap64 ((x4.length : Int) - 1)) 0) : Int).toNat) x10 x11 (wrap64 (x12 + 1))) else (none)) else (none)) else (target_Clean.l0 k x3 x4 x10 x11 (wrap64 (x12 + 1)))))) else (none)) else (none)) else (if 0 ≤ (wrap64 ((x3.length : Int) - 1)) then (if (wrap64 ((x3.length : Int) - 1)) < (x3.length : Int) then ((target_dots.f k (rdOf ByteArray.empty x3 (wrap64 ((x3.length : Int) - 1)))).bind fun t143 => (if t143 > 0 then (if x4.length < 8796093022208 then ((strings_Join.f (x4 ++ [(⟨#[]⟩ : ByteArray)]) (⟨#[47]⟩ : ByteArray)).bind fun t147 => (if 1 + t147.size ≤ 9223372036854775807 then (some ((⟨#[47]⟩ : ByteArray) ++ t147)) else (none))) else (none)) else ((strings_Join.f x4 (⟨#[47]⟩ : ByteArray)).bind fun t148 => (if 1 + t148.size ≤ 9223372036854775807 then (some ((⟨#[47]⟩ : ByteArray) ++ t148)) else (none))))) else (none)) else (none))
def target_Clean.f (k : Nat) (a0 : ByteArray) : Option (ByteArray):=(strings_TrimPrefix.f a0 (⟨#[47]⟩ : ByteArray)).bind fun t130 => ((strings_Split.f t130 (⟨#[47]⟩ : ByteArray)).bind fun t131 => (target_Clean.l0 k t131 ([] : List ByteArray) t131 (t131.length : Int) 0))
theorem target_Clean.mono_l : ∀ k,(∀ y0 y1 y2 y3 y4,LeO (target_Clean.l0 k y0 y1 y2 y3 y4) (target_Clean.l0 (k + 1) y0 y1 y2 y3 y4))
 | 0 => fun _ _ _ _ _ r h => by simp [target_Clean.l0] at h
 | k + 1 => by
  have ih0:=target_Clean.mono_l k
  ·intro y0 y1 y2 y3 y4
   unfold target_Clean.l0
   repeat' first
   | (with_reducible exact ih0 _ _ _ _ _)
   | (with_reducible exact target_dots.mono _ _)
   | (with_reducible exact LeO.refl _)
   | (with_reducible exact LeO.none _)
   | (with_reducible refine LeO.ite ?_ ?_)
   | (with_reducible refine LeO.bind ?_ (fun _ => ?_))
   | exact ih0 _ _ _ _ _
   | exact target_dots.mono _ _
   | exact LeO.none _
   | refine LeO.ite ?_ ?_
   | refine LeO.bind ?_ (fun _ => ?_)
theorem target_Clean.mono : ∀ a0 k,LeO (target_Clean.f k a0) (target_Clean.f (k + 1) a0):=by
 intro a0 k
 have ih0:=target_Clean.mono_l k
 unfold target_Clean.f
 repeat' first
   | (with_reducible exact ih0 _ _ _ _ _)
   | (with_reducible exact target_dots.mono _ _)
   | (with_reducible exact LeO.refl _)
   | (with_reducible exact LeO.none _)
   | (with_reducible refine LeO.ite ?_ ?_)
   | (with_reducible refine LeO.bind ?_ (fun _ => ?_))
   | exact ih0 _ _ _ _ _
   | exact target_dots.mono _ _
   | exact LeO.none _
   | refine LeO.ite ?_ ?_
   | refine LeO.bind ?_ (fun _ => ?_)
set_option maxHeartbeats 8000000 in
set_option maxRecDepth 100000 in
theorem target_Clean.calls (k : Nat) (a0 : ByteArray) (r : ByteArray) (w : World) (h : target_Clean.f k a0 = some r) :
  Calls Tryd.prog 36 #[.string a0] w fun e w' => e = .returned (.string r) ∧ Below w.heap.size w w':=by
 have HB:=Aside0.mk (Below.refl w.heap.size w)
 have H : ((strings_TrimPrefix.f a0 (⟨#[47]⟩ : ByteArray)).bind fun t130 => ((strings_Split.f t130 (⟨#[47]⟩ : ByteArray)).bind fun t131 => (target_Clean.l0 k t131 ([] : List ByteArray) t131 (t131.length : Int) 0))) = some r:=h
 clear h
 replace H:=Option.bind_eq_some_iff.mp H
 obtain ⟨t130,A20,H⟩:=H
 replace H : ((strings_Split.f t130 (⟨#[47]⟩ : ByteArray)).bind fun t131 => (target_Clean.l0 k t131 ([] : List ByteArray) t131 (t131.length : Int) 0)) = some r:=H
 have A2:=Aside0.mk A20
 clear A20
 replace H:=Option.bind_eq_some_iff.mp H
 obtain ⟨t131,A30,H⟩:=H
 replace H : (target_Clean.l0 k t131 ([] : List ByteArray) t131 (t131.length : Int) 0) = some r:=H
 have A3:=Aside0.mk A30
 clear A30
 have H':=Aside0.mk H
 clear H
 go_enter Tryd.func36,Tryd.ntmps36
 go_wp2_with (first|((with_reducible refine gate_callee (f:=59) rfl ?_);refine goesL_ (some 8) rfl rfl Tryd.func59 (by kernel_rfl) rfl #[.string a0,.string (⟨#[47]⟩ : ByteArray)] rfl (by (try simp only [List.map_toArray,List.map_cons,List.map_nil]);first|done|rfl|(simp only [List.length_drop,List.length_take];rfl)) ?_;(with_reducible refine (strings_TrimPrefix.calls a0 (⟨#[47]⟩ : ByteArray) t130 _ A2.out).mono ?_);rintro e w' ⟨rfl,⟨nd,rfl⟩⟩;refine ⟨_,rfl,?_⟩)|((with_reducible refine gate_callee (f:=58) rfl ?_);refine goesL_ (some 9) rfl rfl Tryd.func58 (by kernel_rfl) rfl #[.string t130,.string (⟨#[47]⟩ : ByteArray)] rfl (by (try simp only [List.map_toArray,List.map_cons,List.map_nil]);first|done|rfl|(simp only [List.length_drop,List.length_take];rfl)) ?_;(with_reducible refine (strings_Split.calls t130 (⟨#[47]⟩ : ByteArray) t131 _ A3.out).mono ?_);rintro e w4 ⟨v132,rfl,ho0,hb⟩;refine ⟨_,rfl,?_⟩;have n0_:=Aside0.mk (Kd.R_lower ho0 (below_size (by repeat (first|(with_reducible first|exact HB.out|apply below_alloc|apply pw_below_drewN|apply below_drew1)|exact HB.out))));have n1_:=Aside0.mk (below_step (by repeat (first|(with_reducible first|exact HB.out|apply below_alloc|apply pw_below_drewN|apply below_drew1)|exact HB.out)) hb);clear HB;have HO133:=n0_;have HB:=n1_;clear n0_ n1_;(try clear hb);(try clear hb2);(try clear hk);(try clear hi);(try clear ho0);obtain ⟨Ao5,co5,eo5⟩:=Kd.R_slice HO133.out;subst eo5))
 go_loopg [4,12] k (fun kq v4 v12 w' => ∃ (x4_1 : List ByteArray) (x12_1 : Int),v12 = .int .i64 x12_1 ∧ Aside0 (target_Clean.l0 kq t131 x4_1 t131 (t131.length : Int) x12_1 = some r) ∧ Aside0 (kq ≤ k) ∧ Aside0 (Kd.R Kd.string 9 w' w.heap.size (fun k_ => some k_ ≠ (v4 : Value).ownBlock) (.slice Ao5 t131.length co5) t131) ∧ Aside0 (Kd.R Kd.string 9 w' w.heap.size (fun k_ => some k_ ≠ ((.slice Ao5 t131.length co5) : Value).ownBlock ∧ some k_ ≠ ((.slice Ao5 t131.length co5) : Value).ownBlock) v4 x4_1) ∧ Aside0 (Kd.R Kd.string 9 w' w.heap.size (fun k_ => some k_ ≠ (v4 : Value).ownBlock) (.slice Ao5 t131.length co5) t131) ∧ Aside0 (Below w.heap.size w w'))
 case atStart => exact ⟨(([] : List ByteArray)),(0),(by first|rfl|(simp;done)|(simp [*];done)),H',⟨Nat.le_refl _⟩,⟨by (with_reducible repeat (first|apply Kd.R_alloc|apply Kd.R_drewN|apply Kd.R_drew));exact Kd.R_mono HO133.out (fun _ hk => (by simp [Value.ownBlock]))⟩,⟨by first|exact Kd.R_nil _ _ _ _ _|exact Kd.N_nil _ _ _ _ _|exact Kd.V_nil _ _ _ _ _|exact Kd.Q_nil _ _ _ _ _|exact Kd.S_nil _ _ _ _ _⟩,⟨by (with_reducible repeat (first|apply Kd.R_alloc|apply Kd.R_drewN|apply Kd.R_drew));exact Kd.R_mono HO133.out (fun _ hk => (by simp [Value.ownBlock]))⟩,⟨by repeat (first|(with_reducible first|exact HB.out|apply below_alloc|apply pw_below_drewN|apply below_drew1)|exact HB.out)⟩⟩
 case round =>
  clear H'
  try clear p2
  try clear c3
  try clear c5
  obtain ⟨x4_1,x12_1,rfl,HA,HK1,HO_3,HO_4,HO_10,HB⟩:=hrel
  cases gk with
  | zero => exact absurd HA.out (by simp [target_Clean.l0])
  | succ k1 =>
   have H:=HA.out
   clear HA
   simp only [target_Clean.l0] at H
   by_cases c6 : x12_1 < (t131.length : Int)
   ·rw [if_pos c6] at H
    have c6b0 : decide (x12_1 < (t131.length : Int)) = true:=decide_eq_true c6
    clear c6
    by_cases c7 : 0 ≤ x12_1
    ·rw [if_pos c7] at H
     have c7b0 : decide (0 ≤ x12_1) = true:=decide_eq_true c7
     clear c7
     by_cases c8 : x12_1 < (t131.length : Int)
     ·rw [if_pos c8] at H
      have c8b0 : decide (x12_1 < (t131.length : Int)) = true:=decide_eq_true c8
      clear c8
      replace H:=Option.bind_eq_some_iff.mp H
      obtain ⟨t135,A90,H⟩:=H
      replace H : (if t135 = 0 then (if x4_1.length < 8796093022208 then (target_Clean.l0 k1 t131 (x4_1 ++ [rdOf ByteArray.empty t131 x12_1]) t131 (t131.length : Int) (wrap64 (x12_1 + 1))) else (none)) else (if t135 = 2 then (if 0 ≤ (mx (wrap64 ((x4_1.length : Int) - 1)) 0) then (if (mx (wrap64 ((x4_1.length : Int) - 1)) 0) ≤ (x4_1.length : Int) then (target_Clean.l0 k1 t131 (x4_1.take ((mx (wrap64 ((x4_1.length : Int) - 1)) 0) : Int).toNat) t131 (t131.length : Int) (wrap64 (x12_1 + 1))) else (none)) else (none)) else (target_Clean.l0 k1 t131 x4_1 t131 (t131.length : Int) (wrap64 (x12_1 + 1))))) = some r:=H
      have A9:=Aside0.mk A90
      clear A90
      by_cases c10 : t135 = 0
      ·rw [if_pos c10] at H
       have c10b0 : (t135 == 0) = true:=beq_iff_eq.mpr c10
       have c10b1 : (t135 != 0) = false:=bne_eq_false_iff_eq.mpr c10
       clear c10
       by_cases c11 : x4_1.length < 8796093022208
       ·rw [if_pos c11] at H
        have LMc11:=Aside0.mk c11
        clear c11
        obtain ⟨y136,hy136⟩ : ∃ y_ : List ByteArray,y_ = (x4_1 ++ [rdOf ByteArray.empty t131 x12_1]):=⟨_,rfl⟩
        replace H : (target_Clean.l0 k1 t131 y136 t131 (t131.length : Int) (wrap64 (x12_1 + 1))) = some r:=by first|(rw [hy136];with_reducible exact H)|(have H2_:=(Option.bind_some _ _).symm.trans H;rw [hy136];with_reducible exact H2_)|(have H2_:=(Option.bind_some _ _).symm.trans H;with_reducible exact H2_)|with_reducible exact H|(rw [hy136];exact H)|exact H
        have Ny136:=Aside0.mk hy136
        clear hy136
        have H':=Aside0.mk H
        clear H
        have p134 : 0 ≤ (x12_1 : Int):=of_decide_eq_true (by first|(with_reducible assumption)|assumption)
        have q134 : x12_1 < (t131.length : Int):=of_decide_eq_true (by first|(with_reducible assumption)|assumption)
        obtain ⟨ad134,e134,hx134_0⟩:=Kd.at_string (Kd.R_reads' HO_10.out).2.2 x12_1 p134 q134
        cases e134
        replace p134:=eq_true p134
        replace q134:=eq_true q134
        go_wp2_with (first|((with_reducible refine gate_callee (f:=60) rfl ?_);refine goesL_ (some 17) rfl rfl Tryd.func60 (by kernel_rfl) rfl #[.string (rdOf ByteArray.empty t131 x12_1)] rfl (by (try simp only [List.map_toArray,List.map_cons,List.map_nil]);first|done|rfl|(simp only [List.length_drop,List.length_take];rfl)) ?_;(with_reducible refine (target_dots.calls k1 (rdOf ByteArray.empty t131 x12_1) t135 _ A9.out).mono ?_);rintro e w12 ⟨rfl,hb⟩;refine ⟨_,rfl,?_⟩;have n0_:=Aside0.mk (Kd.R_below (by (with_reducible repeat (first|apply Kd.R_alloc|apply Kd.R_drewN|apply Kd.R_drew));exact HO_3.out) hb);have n1_:=Aside0.mk (Kd.R_below (by (with_reducible repeat (first|apply Kd.R_alloc|apply Kd.R_drewN|apply Kd.R_drew));exact HO_4.out) hb);have n2_:=Aside0.mk (Kd.R_below (by (with_reducible repeat (first|apply Kd.R_alloc|apply Kd.R_drewN|apply Kd.R_drew));exact HO_10.out) hb);have n3_:=Aside0.mk (below_step (by repeat (first|(with_reducible first|exact HB.out|apply below_alloc|apply pw_below_drewN|apply below_drew1)|exact HB.out)) hb);clear HO_3;clear HO_4;clear HO_10;clear HB;have HO_3:=n0_;have HO_4:=n1_;have HO_10:=n2_;have HB:=n3_;clear n0_ n1_ n2_ n3_;(try clear hb);(try clear hb2);(try clear hk);(try clear hi))|((with_reducible refine gate_builtin (b:=.append) (xs:=#[.tmp 20,.tmp 22]) rfl ?_);at_builtin;refine Kd.R_append Kd.string (w0:=w) w.heap.size rfl (.tmp 20) (.tmp 22) 52 9 (.string ⟨#[]⟩) 16 rfl Tryd.underlying52 info9 rfl (by decide) (by omega) u4 x4_1 (rdOf ByteArray.empty t131 x12_1) [.string (rdOf ByteArray.empty t131 x12_1)] (fun k_ => some k_ ≠ (.slice (some ad134) t131.length co5 : Value).ownBlock ∧ some k_ ≠ (.slice (some ad134) t131.length co5 : Value).ownBlock) (fun _ => False) rfl rfl ?aP (fun _ hk => hk.elim) ?aF ?aO ?aB ?aS ?aL ?_;(case aP => exact rfl);(case aB => exact (by repeat (first|(with_reducible first|exact HB.out|apply below_alloc|apply pw_below_drewN|apply below_drew1)|exact HB.out)));(case aF => exact (fun k_ hk => ⟨Kd.fresh' (Kd.R_lt (by (with_reducible repeat (first|apply Kd.R_alloc|apply Kd.R_drewN|apply Kd.R_drew));exact HO_3.out)) k_ hk,Kd.fresh' (Kd.R_lt (by (with_reducible repeat (first|apply Kd.R_alloc|apply Kd.R_drewN|apply Kd.R_drew));exact HO_10.out)) k_ hk⟩));(case aO => exact (by (with_reducible repeat (first|apply Kd.R_alloc|apply Kd.R_drewN|apply Kd.R_drew));exact HO_4.out));(case aS => exact (below_size (by repeat (first|(with_reducible first|exact HB.out|apply below_alloc|apply pw_below_drewN|apply below_drew1)|exact HB.out))));(case aL => have:=LMc11.out;omega);intro v137 w13 ho hb hg hat;rw [← Ny136.out] at ho;have n0_:=Aside0.mk (Kd.R_after (ok:=(fun _ => True)) (by (with_reducible repeat (first|apply Kd.R_alloc|apply Kd.R_drewN|apply Kd.R_drew));exact Kd.R_mono HO_3.out (fun _ hk => ⟨trivial,hk⟩)) hg hat);have n1_:=Aside0.mk (Kd.R_after (ok:=(fun _ => True)) (by (with_reducible repeat (first|apply Kd.R_alloc|apply Kd.R_drewN|apply Kd.R_drew));exact Kd.R_mono HO_10.out (fun _ hk => ⟨trivial,hk⟩)) hg hat);have n2_:=Aside0.mk (hb);have n3_:=Aside0.mk (ho);clear HO_3;clear HO_10;clear HB;clear HO_4;have HO_3:=n0_;have HO_10:=n1_;have HB:=n2_;have HO138:=n3_;clear n0_ n1_ n2_ n3_;clear ho hb hg hat))
        go_roundg k1
        case measure => have:=HK1.out;omega
        case rel => exact ⟨(y136),(wrap64 (x12_1 + 1)),(by first|rfl|(simp;done)|(simp [*];done)),H',⟨by have:=HK1.out;omega⟩,⟨by (with_reducible repeat (first|apply Kd.R_alloc|apply Kd.R_drewN|apply Kd.R_drew));exact Kd.R_mono HO_3.out (fun _ hk => hk.2)⟩,⟨by (with_reducible repeat (first|apply Kd.R_alloc|apply Kd.R_drewN|apply Kd.R_drew));first|exact HO138.out|exact Kd.R_mono HO138.out (fun k_ h_ e_ => h_ (e_.trans (own_len _ _ _ _)))⟩,⟨by (with_reducible repeat (first|apply Kd.R_alloc|apply Kd.R_drewN|apply Kd.R_drew));exact Kd.R_mono HO_10.out (fun _ hk => hk.2)⟩,⟨by repeat (first|(with_reducible first|exact HB.out|apply below_alloc|apply pw_below_drewN|apply below_drew1)|exact HB.out)⟩⟩
       ·rw [if_neg c11] at H
        exact absurd H (by simp)
      ·rw [if_neg c10] at H
       have c10b0 : (t135 == 0) = false:=beq_eq_false_iff_ne.mpr c10
       have c10b1 : (t135 != 0) = true:=bne_iff_ne.mpr c10
       by_cases c14 : t135 = 2
       ·rw [if_pos c14] at H
        have c14b0 : (t135 == 2) = true:=beq_iff_eq.mpr c14
        have c14b1 : (t135 != 2) = false:=bne_eq_false_iff_eq.mpr c14
        clear c14
        obtain ⟨ji15,hji15⟩ : ∃ j_ : Int,(mx (wrap64 ((x4_1.length : Int) - 1)) 0) = j_:=⟨_,rfl⟩
        replace H : (if 0 ≤ (ji15) then (if (ji15) ≤ (x4_1.length : Int) then (target_Clean.l0 k1 t131 (x4_1.take ((ji15) : Int).toNat) t131 (t131.length : Int) (wrap64 (x12_1 + 1))) else (none)) else (none)) = some r:=by first|(rw [hji15] at H;exact H)|(simp only [hji15] at H ⊢;exact H)
        (try rw [hji15] at A9)
        have hji15_ : (if (wrap64 ((x4_1.length : Int) - 1)) < 0 then 0 else (wrap64 ((x4_1.length : Int) - 1))) = ji15:=hji15
        by_cases c16 : 0 ≤ (ji15)
        ·rw [if_pos c16] at H
         have c16b0:=eq_true c16
         have c16b1 : decide (0 ≤ (ji15)) = true:=decide_eq_true c16
         clear c16
         by_cases c17 : (ji15) ≤ (x4_1.length : Int)
         ·rw [if_pos c17] at H
          have c17b0:=eq_true c17
          have c17b1 : decide ((ji15) ≤ (x4_1.length : Int)) = true:=decide_eq_true c17
          clear c17
          obtain ⟨y139,hy139⟩ : ∃ y_ : List ByteArray,y_ = (x4_1.take ((ji15) : Int).toNat):=⟨_,rfl⟩
          replace H : (target_Clean.l0 k1 t131 y139 t131 (t131.length : Int) (wrap64 (x12_1 + 1))) = some r:=by first|(rw [hy139];with_reducible exact H)|(have H2_:=(Option.bind_some _ _).symm.trans H;rw [hy139];with_reducible exact H2_)|(have H2_:=(Option.bind_some _ _).symm.trans H;with_reducible exact H2_)|with_reducible exact H|(rw [hy139];exact H)|exact H
          have Ny139:=Aside0.mk hy139
          clear hy139
          have H':=Aside0.mk H
          clear H
          have p134 : 0 ≤ (x12_1 : Int):=of_decide_eq_true (by first|(with_reducible assumption)|assumption)
          have q134 : x12_1 < (t131.length : Int):=of_decide_eq_true (by first|(with_reducible assumption)|assumption)
          obtain ⟨ad134,e134,hx134_0⟩:=Kd.at_string (Kd.R_reads' HO_10.out).2.2 x12_1 p134 q134
          cases e134
          replace p134:=eq_true p134
          replace q134:=eq_true q134
          go_wp2_with (first|((with_reducible refine gate_callee (f:=60) rfl ?_);refine goesL_ (some 17) rfl rfl Tryd.func60 (by kernel_rfl) rfl #[.string (rdOf ByteArray.empty t131 x12_1)] rfl (by (try simp only [List.map_toArray,List.map_cons,List.map_nil]);first|done|rfl|(simp only [List.length_drop,List.length_take];rfl)) ?_;(with_reducible refine (target_dots.calls k1 (rdOf ByteArray.empty t131 x12_1) t135 _ A9.out).mono ?_);rintro e w18 ⟨rfl,hb⟩;refine ⟨_,rfl,?_⟩;have n0_:=Aside0.mk (Kd.R_below (by (with_reducible repeat (first|apply Kd.R_alloc|apply Kd.R_drewN|apply Kd.R_drew));exact HO_3.out) hb);have n1_:=Aside0.mk (Kd.R_below (by (with_reducible repeat (first|apply Kd.R_alloc|apply Kd.R_drewN|apply Kd.R_drew));exact HO_4.out) hb);have n2_:=Aside0.mk (Kd.R_below (by (with_reducible repeat (first|apply Kd.R_alloc|apply Kd.R_drewN|apply Kd.R_drew));exact HO_10.out) hb);have n3_:=Aside0.mk (below_step (by repeat (first|(with_reducible first|exact HB.out|apply below_alloc|apply pw_below_drewN|apply below_drew1)|exact HB.out)) hb);clear HO_3;clear HO_4;clear HO_10;clear HB;have HO_3:=n0_;have HO_4:=n1_;have HO_10:=n2_;have HB:=n3_;clear n0_ n1_ n2_ n3_;(try clear hb);(try clear hb2);(try clear hk);(try clear hi);obtain ⟨Ao19,co19,eo19⟩:=Kd.R_slice HO_4.out;subst eo19;have q20 : ((ji15) : Int) ≤ ((x4_1.length : Int) : Int):=of_decide_eq_true (by first|(with_reducible assumption)|assumption);obtain ⟨i020,hi020,_,hsz20,_⟩:=info_parts info9;have hcut20:=cut_to (P:=Tryd.prog) 52 9 .i64 Tryd.underlying52 hi020 Ao19 x4_1.length co19 (ji15) (of_decide_eq_true (by first|(with_reducible assumption)|assumption)) q20 (Kd.R_reads' HO_4.out).2.1;have hr20:=Kd.R_take (m:=((ji15) : Int).toNat) HO_4.out (by omega);have hy20 : y139.length = ((ji15) : Int).toNat:=(by rw [Ny139.out,List.length_take];omega);rw [← Ny139.out] at hr20;rw [← hy20] at hr20 hcut20;clear hy20 hi020 hsz20 HO_4;have HO141:=Aside0.mk hr20;clear hr20;replace q20:=eq_true q20))
          go_roundg k1
          case measure => have:=HK1.out;omega
          case rel => exact ⟨(y139),(wrap64 (x12_1 + 1)),(by first|rfl|(simp;done)|(simp [*];done)),H',⟨by have:=HK1.out;omega⟩,⟨by (with_reducible repeat (first|apply Kd.R_alloc|apply Kd.R_drewN|apply Kd.R_drew));first|exact HO_3.out|exact Kd.R_mono HO_3.out (fun k_ h_ e_ => h_ (e_.trans (own_len _ _ _ _)))⟩,⟨by (with_reducible repeat (first|apply Kd.R_alloc|apply Kd.R_drewN|apply Kd.R_drew));first|exact HO141.out|exact Kd.R_mono HO141.out (fun k_ h_ e_ => h_ (e_.trans (own_len _ _ _ _)))⟩,⟨by (with_reducible repeat (first|apply Kd.R_alloc|apply Kd.R_drewN|apply Kd.R_drew));first|exact HO_10.out|exact Kd.R_mono HO_10.out (fun k_ h_ e_ => h_ (e_.trans (own_len _ _ _ _)))⟩,⟨by repeat (first|(with_reducible first|exact HB.out|apply below_alloc|apply pw_below_drewN|apply below_drew1)|exact HB.out)⟩⟩
         ·rw [if_neg c17] at H
          exact absurd H (by simp)
        ·rw [if_neg c16] at H
         exact absurd H (by simp)
       ·rw [if_neg c14] at H
        have c14b0 : (t135 == 2) = false:=beq_eq_false_iff_ne.mpr c14
        have c14b1 : (t135 != 2) = true:=bne_iff_ne.mpr c14
        have H':=Aside0.mk H
        clear H
        have p134 : 0 ≤ (x12_1 : Int):=of_decide_eq_true (by first|(with_reducible assumption)|assumption)
        have q134 : x12_1 < (t131.length : Int):=of_decide_eq_true (by first|(with_reducible assumption)|assumption)
        obtain ⟨ad134,e134,hx134_0⟩:=Kd.at_string (Kd.R_reads' HO_10.out).2.2 x12_1 p134 q134
        cases e134
        replace p134:=eq_true p134
        replace q134:=eq_true q134
        go_wp2_with (first|((with_reducible refine gate_callee (f:=60) rfl ?_);refine goesL_ (some 17) rfl rfl Tryd.func60 (by kernel_rfl) rfl #[.string (rdOf ByteArray.empty t131 x12_1)] rfl (by (try simp only [List.map_toArray,List.map_cons,List.map_nil]);first|done|rfl|(simp only [List.length_drop,List.length_take];rfl)) ?_;(with_reducible refine (target_dots.calls k1 (rdOf ByteArray.empty t131 x12_1) t135 _ A9.out).mono ?_);rintro e w21 ⟨rfl,hb⟩;refine ⟨_,rfl,?_⟩;have n0_:=Aside0.mk (Kd.R_below (by (with_reducible repeat (first|apply Kd.R_alloc|apply Kd.R_drewN|apply Kd.R_drew));exact HO_3.out) hb);have n1_:=Aside0.mk (Kd.R_below (by (with_reducible repeat (first|apply Kd.R_alloc|apply Kd.R_drewN|apply Kd.R_drew));exact HO_4.out) hb);have n2_:=Aside0.mk (Kd.R_below (by (with_reducible repeat (first|apply Kd.R_alloc|apply Kd.R_drewN|apply Kd.R_drew));exact HO_10.out) hb);have n3_:=Aside0.mk (below_step (by repeat (first|(with_reducible first|exact HB.out|apply below_alloc|apply pw_below_drewN|apply below_drew1)|exact HB.out)) hb);clear HO_3;clear HO_4;clear HO_10;clear HB;have HO_3:=n0_;have HO_4:=n1_;have HO_10:=n2_;have HB:=n3_;clear n0_ n1_ n2_ n3_;(try clear hb);(try clear hb2);(try clear hk);(try clear hi)))
        go_roundg k1
        case measure => have:=HK1.out;omega
        case rel => exact ⟨(x4_1),(wrap64 (x12_1 + 1)),(by first|rfl|(simp;done)|(simp [*];done)),H',⟨by have:=HK1.out;omega⟩,⟨by (with_reducible repeat (first|apply Kd.R_alloc|apply Kd.R_drewN|apply Kd.R_drew));first|exact HO_3.out|exact Kd.R_mono HO_3.out (fun k_ h_ e_ => h_ (e_.trans (own_len _ _ _ _)))⟩,⟨by (with_reducible repeat (first|apply Kd.R_alloc|apply Kd.R_drewN|apply Kd.R_drew));first|exact HO_4.out|exact Kd.R_mono HO_4.out (fun k_ h_ e_ => h_ (e_.trans (own_len _ _ _ _)))⟩,⟨by (with_reducible repeat (first|apply Kd.R_alloc|apply Kd.R_drewN|apply Kd.R_drew));first|exact HO_10.out|exact Kd.R_mono HO_10.out (fun k_ h_ e_ => h_ (e_.trans (own_len _ _ _ _)))⟩,⟨by repeat (first|(with_reducible first|exact HB.out|apply below_alloc|apply pw_below_drewN|apply below_drew1)|exact HB.out)⟩⟩
     ·rw [if_neg c8] at H
      exact absurd H (by simp)
    ·rw [if_neg c7] at H
     exact absurd H (by simp)
   ·rw [if_neg c6] at H
    have c6b0 : decide (x12_1 < (t131.length : Int)) = false:=decide_eq_false c6
    clear c6
    obtain ⟨ji22,hji22⟩ : ∃ j_ : Int,(wrap64 ((t131.length : Int) - 1)) = j_:=⟨_,rfl⟩
    replace H : (if 0 ≤ (ji22) then (if (ji22) < (t131.length : Int) then ((target_dots.f k1 (rdOf ByteArray.empty t131 (ji22))).bind fun t143 => (if t143 > 0 then (if x4_1.length < 8796093022208 then ((strings_Join.f (x4_1 ++ [(⟨#[]⟩ : ByteArray)]) (⟨#[47]⟩ : ByteArray)).bind fun t147 => (if 1 + t147.size ≤ 9223372036854775807 then (some ((⟨#[47]⟩ : ByteArray) ++ t147)) else (none))) else (none)) else ((strings_Join.f x4_1 (⟨#[47]⟩ : ByteArray)).bind fun t148 => (if 1 + t148.size ≤ 9223372036854775807 then (some ((⟨#[47]⟩ : ByteArray) ++ t148)) else (none))))) else (none)) else (none)) = some r:=by first|(rw [hji22] at H;exact H)|(simp only [hji22] at H ⊢;exact H)
    have hji22w : (IntKind.i64.wrap ((t131.length : Int) - 1)) = ji22:=(i64_w _).trans hji22
    by_cases c23 : 0 ≤ (ji22)
    ·rw [if_pos c23] at H
     have c23b0 : decide (0 ≤ (ji22)) = true:=decide_eq_true c23
     clear c23
     by_cases c24 : (ji22) < (t131.length : Int)
     ·rw [if_pos c24] at H
      have c24b0 : decide ((ji22) < (t131.length : Int)) = true:=decide_eq_true c24
      clear c24
      replace H:=Option.bind_eq_some_iff.mp H
      obtain ⟨t143,A250,H⟩:=H
      replace H : (if t143 > 0 then (if x4_1.length < 8796093022208 then ((strings_Join.f (x4_1 ++ [(⟨#[]⟩ : ByteArray)]) (⟨#[47]⟩ : ByteArray)).bind fun t147 => (if 1 + t147.size ≤ 9223372036854775807 then (some ((⟨#[47]⟩ : ByteArray) ++ t147)) else (none))) else (none)) else ((strings_Join.f x4_1 (⟨#[47]⟩ : ByteArray)).bind fun t148 => (if 1 + t148.size ≤ 9223372036854775807 then (some ((⟨#[47]⟩ : ByteArray) ++ t148)) else (none)))) = some r:=H
      have A25:=Aside0.mk A250
      clear A250
      by_cases c26 : t143 > 0
      ·rw [if_pos c26] at H
       have c26b0 : decide (0 < t143) = true:=decide_eq_true c26
       clear c26
       by_cases c27 : x4_1.length < 8796093022208
       ·rw [if_pos c27] at H
        have LMc27:=Aside0.mk c27
        clear c27
        obtain ⟨y144,hy144⟩ : ∃ y_ : List ByteArray,y_ = (x4_1 ++ [(⟨#[]⟩ : ByteArray)]):=⟨_,rfl⟩
        replace H : ((strings_Join.f y144 (⟨#[47]⟩ : ByteArray)).bind fun t147 => (if 1 + t147.size ≤ 9223372036854775807 then (some ((⟨#[47]⟩ : ByteArray) ++ t147)) else (none))) = some r:=by first|(rw [hy144];with_reducible exact H)|(have H2_:=(Option.bind_some _ _).symm.trans H;rw [hy144];with_reducible exact H2_)|(have H2_:=(Option.bind_some _ _).symm.trans H;with_reducible exact H2_)|with_reducible exact H|(rw [hy144];exact H)|exact H
        have Ny144:=Aside0.mk hy144
        clear hy144
        replace H:=Option.bind_eq_some_iff.mp H
        obtain ⟨t147,A280,H⟩:=H
        replace H : (if 1 + t147.size ≤ 9223372036854775807 then (some ((⟨#[47]⟩ : ByteArray) ++ t147)) else (none)) = some r:=H
        have A28:=Aside0.mk A280
        clear A280
        by_cases c29 : 1 + t147.size ≤ 9223372036854775807
        ·rw [if_pos c29] at H
         have c29b0:=eq_true c29
         have c29b1 : decide (1 + t147.size ≤ 9223372036854775807) = true:=decide_eq_true c29
         try have c29b2 : (9223372036854775807 < 1 + t147.size) = False:=eq_false (Nat.not_lt.2 c29)
         obtain rfl:=Option.some.inj H
         have p142 : 0 ≤ ((ji22) : Int):=of_decide_eq_true (by first|(with_reducible assumption)|assumption)
         have q142 : (ji22) < (t131.length : Int):=of_decide_eq_true (by first|(with_reducible assumption)|assumption)
         obtain ⟨ad142,e142,hx142_0⟩:=Kd.at_string (Kd.R_reads' HO_3.out).2.2 (ji22) p142 q142
         cases e142
         replace p142:=eq_true p142
         replace q142:=eq_true q142
         go_wp2_with (first|((with_reducible refine gate_callee (f:=60) rfl ?_);refine goesL_ (some 39) rfl rfl Tryd.func60 (by kernel_rfl) rfl #[.string (rdOf ByteArray.empty t131 (ji22))] rfl (by (try simp only [List.map_toArray,List.map_cons,List.map_nil]);first|done|(simp only [hji22];rfl)|rfl|(simp only [List.length_drop,List.length_take];rfl)) ?_;(with_reducible refine (target_dots.calls k1 (rdOf ByteArray.empty t131 (ji22)) t143 _ A25.out).mono ?_);rintro e w30 ⟨rfl,hb⟩;refine ⟨_,rfl,?_⟩;have n0_:=Aside0.mk (Kd.R_below (by (with_reducible repeat (first|apply Kd.R_alloc|apply Kd.R_drewN|apply Kd.R_drew));exact HO_3.out) hb);have n1_:=Aside0.mk (Kd.R_below (by (with_reducible repeat (first|apply Kd.R_alloc|apply Kd.R_drewN|apply Kd.R_drew));exact HO_4.out) hb);have n2_:=Aside0.mk (Kd.R_below (by (with_reducible repeat (first|apply Kd.R_alloc|apply Kd.R_drewN|apply Kd.R_drew));exact HO_10.out) hb);have n3_:=Aside0.mk (below_step (by repeat (first|(with_reducible first|exact HB.out|apply below_alloc|apply pw_below_drewN|apply below_drew1)|exact HB.out)) hb);clear HO_3;clear HO_4;clear HO_10;clear HB;have HO_3:=n0_;have HO_4:=n1_;have HO_10:=n2_;have HB:=n3_;clear n0_ n1_ n2_ n3_;(try clear hb);(try clear hb2);(try clear hk);(try clear hi))|((with_reducible refine gate_builtin (b:=.append) (xs:=#[.tmp 41,.tmp 42]) rfl ?_);at_builtin;refine Kd.R_append Kd.string (w0:=w) w.heap.size rfl (.tmp 41) (.tmp 42) 52 9 (.string ⟨#[]⟩) 16 rfl Tryd.underlying52 info9 rfl (by decide) (by omega) u4 x4_1 (⟨#[]⟩ : ByteArray) [.string (⟨#[]⟩ : ByteArray)] (fun k_ => some k_ ≠ (.slice (some ad142) t131.length co5 : Value).ownBlock ∧ some k_ ≠ (.slice (some ad142) t131.length co5 : Value).ownBlock) (fun _ => False) rfl rfl ?aP (fun _ hk => hk.elim) ?aF ?aO ?aB ?aS ?aL ?_;(case aP => exact rfl);(case aB => exact (by repeat (first|(with_reducible first|exact HB.out|apply below_alloc|apply pw_below_drewN|apply below_drew1)|exact HB.out)));(case aF => exact (fun k_ hk => ⟨Kd.fresh' (Kd.R_lt (by (with_reducible repeat (first|apply Kd.R_alloc|apply Kd.R_drewN|apply Kd.R_drew));exact HO_3.out)) k_ hk,Kd.fresh' (Kd.R_lt (by (with_reducible repeat (first|apply Kd.R_alloc|apply Kd.R_drewN|apply Kd.R_drew));exact HO_10.out)) k_ hk⟩));(case aO => exact (by (with_reducible repeat (first|apply Kd.R_alloc|apply Kd.R_drewN|apply Kd.R_drew));exact HO_4.out));(case aS => exact (below_size (by repeat (first|(with_reducible first|exact HB.out|apply below_alloc|apply pw_below_drewN|apply below_drew1)|exact HB.out))));(case aL => have:=LMc27.out;omega);intro v145 w31 ho hb hg hat;rw [← Ny144.out] at ho;have n0_:=Aside0.mk (Kd.R_after (ok:=(fun _ => True)) (by (with_reducible repeat (first|apply Kd.R_alloc|apply Kd.R_drewN|apply Kd.R_drew));exact Kd.R_mono HO_3.out (fun _ hk => ⟨trivial,hk⟩)) hg hat);have n1_:=Aside0.mk (Kd.R_after (ok:=(fun _ => True)) (by (with_reducible repeat (first|apply Kd.R_alloc|apply Kd.R_drewN|apply Kd.R_drew));exact Kd.R_mono HO_10.out (fun _ hk => ⟨trivial,hk⟩)) hg hat);have n2_:=Aside0.mk (hb);have n3_:=Aside0.mk (ho);clear HO_3;clear HO_10;clear HB;clear HO_4;have HO_3:=n0_;have HO_10:=n1_;have HB:=n2_;have HO146:=n3_;clear n0_ n1_ n2_ n3_;clear ho hb hg hat;obtain ⟨Ao32,co32,eo32⟩:=Kd.R_slice HO146.out;subst eo32)|((with_reducible refine gate_callee (f:=61) rfl ?_);refine goesL_ (some 45) rfl rfl Tryd.func61 (by kernel_rfl) rfl #[.slice Ao32 y144.length co32,.string (⟨#[47]⟩ : ByteArray)] rfl (by (try simp only [List.map_toArray,List.map_cons,List.map_nil]);first|done|rfl|(simp only [List.length_drop,List.length_take];rfl)) ?_;(with_reducible refine (strings_Join.calls _ _ y144 (⟨#[47]⟩ : ByteArray) t147 _ ?side1 ?side2 A28.out).mono ?_);(case side1 => repeat (first|exact (Kd.R_reads' HO146.out).2.2|(with_reducible refine Kd.C_alloc ?_ _)|(with_reducible refine Kd.C_drewN ?_ _)|(with_reducible refine Kd.C_drew ?_)));(case side2 => exact (Kd.R_reads' HO146.out).2.1);rintro e w33 ⟨rfl,hb⟩;refine ⟨_,rfl,?_⟩;have n0_:=Aside0.mk (Kd.R_below (by (with_reducible repeat (first|apply Kd.R_alloc|apply Kd.R_drewN|apply Kd.R_drew));exact HO_3.out) hb);have n1_:=Aside0.mk (Kd.R_below (by (with_reducible repeat (first|apply Kd.R_alloc|apply Kd.R_drewN|apply Kd.R_drew));exact HO_10.out) hb);have n2_:=Aside0.mk (Kd.R_below (by (with_reducible repeat (first|apply Kd.R_alloc|apply Kd.R_drewN|apply Kd.R_drew));exact HO146.out) hb);have n3_:=Aside0.mk (below_step (by repeat (first|(with_reducible first|exact HB.out|apply below_alloc|apply pw_below_drewN|apply below_drew1)|exact HB.out)) hb);clear HO_3;clear HO_10;clear HO146;clear HB;have HO_3:=n0_;have HO_10:=n1_;have HO146:=n2_;have HB:=n3_;clear n0_ n1_ n2_ n3_;(try clear hb);(try clear hb2);(try clear hk);(try clear hi)))
         go_ret
         exact ⟨by first|rfl|(simp [errW_none,errW_some] <;> rfl)|(simp only [← hji22];first|rfl|(simp [errW_none,errW_some] <;> rfl))|(simp [*,errW_none,errW_some] <;> rfl),by repeat (first|(with_reducible first|exact HB.out|apply below_alloc|apply pw_below_drewN|apply below_drew1)|exact HB.out)⟩
        ·rw [if_neg c29] at H
         exact absurd H (by simp)
       ·rw [if_neg c27] at H
        exact absurd H (by simp)
      ·rw [if_neg c26] at H
       have c26b0 : decide (0 < t143) = false:=decide_eq_false c26
       clear c26
       replace H:=Option.bind_eq_some_iff.mp H
       obtain ⟨t148,A340,H⟩:=H
       replace H : (if 1 + t148.size ≤ 9223372036854775807 then (some ((⟨#[47]⟩ : ByteArray) ++ t148)) else (none)) = some r:=H
       have A34:=Aside0.mk A340
       clear A340
       by_cases c35 : 1 + t148.size ≤ 9223372036854775807
       ·rw [if_pos c35] at H
        have c35b0:=eq_true c35
        have c35b1 : decide (1 + t148.size ≤ 9223372036854775807) = true:=decide_eq_true c35
        try have c35b2 : (9223372036854775807 < 1 + t148.size) = False:=eq_false (Nat.not_lt.2 c35)
        obtain rfl:=Option.some.inj H
        have p142 : 0 ≤ ((ji22) : Int):=of_decide_eq_true (by first|(with_reducible assumption)|assumption)
        have q142 : (ji22) < (t131.length : Int):=of_decide_eq_true (by first|(with_reducible assumption)|assumption)
        obtain ⟨ad142,e142,hx142_0⟩:=Kd.at_string (Kd.R_reads' HO_3.out).2.2 (ji22) p142 q142
        cases e142
        replace p142:=eq_true p142
        replace q142:=eq_true q142
        go_wp2_with (first|((with_reducible refine gate_callee (f:=60) rfl ?_);refine goesL_ (some 39) rfl rfl Tryd.func60 (by kernel_rfl) rfl #[.string (rdOf ByteArray.empty t131 (ji22))] rfl (by (try simp only [List.map_toArray,List.map_cons,List.map_nil]);first|done|(simp only [hji22];rfl)|rfl|(simp only [List.length_drop,List.length_take];rfl)) ?_;(with_reducible refine (target_dots.calls k1 (rdOf ByteArray.empty t131 (ji22)) t143 _ A25.out).mono ?_);rintro e w36 ⟨rfl,hb⟩;refine ⟨_,rfl,?_⟩;have n0_:=Aside0.mk (Kd.R_below (by (with_reducible repeat (first|apply Kd.R_alloc|apply Kd.R_drewN|apply Kd.R_drew));exact HO_3.out) hb);have n1_:=Aside0.mk (Kd.R_below (by (with_reducible repeat (first|apply Kd.R_alloc|apply Kd.R_drewN|apply Kd.R_drew));exact HO_4.out) hb);have n2_:=Aside0.mk (Kd.R_below (by (with_reducible repeat (first|apply Kd.R_alloc|apply Kd.R_drewN|apply Kd.R_drew));exact HO_10.out) hb);have n3_:=Aside0.mk (below_step (by repeat (first|(with_reducible first|exact HB.out|apply below_alloc|apply pw_below_drewN|apply below_drew1)|exact HB.out)) hb);clear HO_3;clear HO_4;clear HO_10;clear HB;have HO_3:=n0_;have HO_4:=n1_;have HO_10:=n2_;have HB:=n3_;clear n0_ n1_ n2_ n3_;(try clear hb);(try clear hb2);(try clear hk);(try clear hi);obtain ⟨Ao37,co37,eo37⟩:=Kd.R_slice HO_4.out;subst eo37)|((with_reducible refine gate_callee (f:=61) rfl ?_);refine goesL_ (some 45) rfl rfl Tryd.func61 (by kernel_rfl) rfl #[.slice Ao37 x4_1.length co37,.string (⟨#[47]⟩ : ByteArray)] rfl (by (try simp only [List.map_toArray,List.map_cons,List.map_nil]);first|done|rfl|(simp only [List.length_drop,List.length_take];rfl)) ?_;(with_reducible refine (strings_Join.calls _ _ x4_1 (⟨#[47]⟩ : ByteArray) t148 _ ?side1 ?side2 A34.out).mono ?_);(case side1 => repeat (first|exact (Kd.R_reads' HO_4.out).2.2|(with_reducible refine Kd.C_alloc ?_ _)|(with_reducible refine Kd.C_drewN ?_ _)|(with_reducible refine Kd.C_drew ?_)));(case side2 => exact (Kd.R_reads' HO_4.out).2.1);rintro e w38 ⟨rfl,hb⟩;refine ⟨_,rfl,?_⟩;have n0_:=Aside0.mk (Kd.R_below (by (with_reducible repeat (first|apply Kd.R_alloc|apply Kd.R_drewN|apply Kd.R_drew));exact HO_3.out) hb);have n1_:=Aside0.mk (Kd.R_below (by (with_reducible repeat (first|apply Kd.R_alloc|apply Kd.R_drewN|apply Kd.R_drew));exact HO_4.out) hb);have n2_:=Aside0.mk (Kd.R_below (by (with_reducible repeat (first|apply Kd.R_alloc|apply Kd.R_drewN|apply Kd.R_drew));exact HO_10.out) hb);have n3_:=Aside0.mk (below_step (by repeat (first|(with_reducible first|exact HB.out|apply below_alloc|apply pw_below_drewN|apply below_drew1)|exact HB.out)) hb);clear HO_3;clear HO_4;clear HO_10;clear HB;have HO_3:=n0_;have HO_4:=n1_;have HO_10:=n2_;have HB:=n3_;clear n0_ n1_ n2_ n3_;(try clear hb);(try clear hb2);(try clear hk);(try clear hi)))
        go_ret
        exact ⟨by first|rfl|(simp [errW_none,errW_some] <;> rfl)|(simp only [← hji22];first|rfl|(simp [errW_none,errW_some] <;> rfl))|(simp [*,errW_none,errW_some] <;> rfl),by repeat (first|(with_reducible first|exact HB.out|apply below_alloc|apply pw_below_drewN|apply below_drew1)|exact HB.out)⟩
       ·rw [if_neg c35] at H
        exact absurd H (by simp)
     ·rw [if_neg c24] at H
      exact absurd H (by simp)
    ·rw [if_neg c23] at H
     exact absurd H (by simp)

/-! ### target_all: function 53 -/
def target_all.l0 : Nat → ByteArray → ByteArray → Int → Int → Option (Bool)
 | 0,_,_,_,_ => none
 | k + 1,x0,x1,x7,x8 => if x8 < x7 then (if 0 ≤ x8 then (if x8 < (x0.size : Int) then (if (bt x0 x8) < 33 then (some false) else (if (bt x0 x8) > 126 then (some false) else ((strings_IndexByte.f x1 (bt x0 x8)).bind fun t149 => (if t149 ≥ 0 then (some false) else (target_all.l0 k x0 x1 x7 (wrap64 (x8 + 1))))))) else (none)) else (none)) else (some true)
def target_all.f (k : Nat) (a0 : ByteArray) (a1 : ByteArray) : Option (Bool):=target_all.l0 k a0 a1 (a0.size : Int) 0
theorem target_all.mono_l : ∀ k,(∀ y0 y1 y2 y3,LeO (target_all.l0 k y0 y1 y2 y3) (target_all.l0 (k + 1) y0 y1 y2 y3))
 | 0 => fun _ _ _ _ r h => by simp [target_all.l0] at h
 | k + 1 => by
  have ih0:=target_all.mono_l k
  ·intro y0 y1 y2 y3
   unfold target_all.l0
   repeat' first
   | (with_reducible exact ih0 _ _ _ _)
   | (with_reducible exact LeO.refl _)
   | (with_reducible exact LeO.none _)
   | (with_reducible refine LeO.ite ?_ ?_)
   | (with_reducible refine LeO.bind ?_ (fun _ => ?_))
   | exact ih0 _ _ _ _
   | exact LeO.none _
   | refine LeO.ite ?_ ?_
   | refine LeO.bind ?_ (fun _ => ?_)
theorem target_all.mono : ∀ a0 a1 k,LeO (target_all.f k a0 a1) (target_all.f (k + 1) a0 a1):=by
 intro a0 a1 k
 have ih0:=target_all.mono_l k
 unfold target_all.f
 repeat' first
   | (with_reducible exact ih0 _ _ _ _)
   | (with_reducible exact LeO.refl _)
   | (with_reducible exact LeO.none _)
   | (with_reducible refine LeO.ite ?_ ?_)
   | (with_reducible refine LeO.bind ?_ (fun _ => ?_))
   | exact ih0 _ _ _ _
   | exact LeO.none _
   | refine LeO.ite ?_ ?_
   | refine LeO.bind ?_ (fun _ => ?_)
set_option maxHeartbeats 8000000 in
set_option maxRecDepth 100000 in
theorem target_all.calls (k : Nat) (a0 : ByteArray) (a1 : ByteArray) (r : Bool) (w : World) (h : target_all.f k a0 a1 = some r) :
  Calls Tryd.prog 53 #[.string a0,.string a1] w fun e w' => e = .returned (.bool r) ∧ Drawn0 w w':=by
 have H : (target_all.l0 k a0 a1 (a0.size : Int) 0) = some r:=h
 clear h
 have H':=Aside0.mk H
 clear H
 go_enter Tryd.func53,Tryd.ntmps53
 go_wp2
 go_loopg [8] k (fun kq v8 w' => ∃ (x8_1 : Int),v8 = .int .i64 x8_1 ∧ Aside0 (target_all.l0 kq a0 a1 (a0.size : Int) x8_1 = some r) ∧ Aside0 (kq ≤ k) ∧ Drawn0 w w')
 case atStart => exact ⟨(0),(by first|rfl|(simp;done)|(simp [*];done)),H',⟨Nat.le_refl _⟩,by repeat (first|exact Drawn0.refl _|apply Drawn0.step)⟩
 case round =>
  clear H'
  try clear p2
  obtain ⟨x8_1,rfl,HA,HK1,⟨m1,rfl⟩⟩:=hrel
  cases gk with
  | zero => exact absurd HA.out (by simp [target_all.l0])
  | succ k1 =>
   have H:=HA.out
   clear HA
   simp only [target_all.l0] at H
   by_cases c3 : x8_1 < (a0.size : Int)
   ·rw [if_pos c3] at H
    have c3b0 : decide (x8_1 < (a0.size : Int)) = true:=decide_eq_true c3
    clear c3
    by_cases c4 : 0 ≤ x8_1
    ·rw [if_pos c4] at H
     have c4b0 : decide (0 ≤ x8_1) = true:=decide_eq_true c4
     clear c4
     by_cases c5 : x8_1 < (a0.size : Int)
     ·rw [if_pos c5] at H
      have c5b0 : decide (x8_1 < (a0.size : Int)) = true:=decide_eq_true c5
      clear c5
      by_cases c7 : (bt a0 x8_1) < 33
      ·rw [if_pos c7] at H
       have c7b0 : decide ((bt a0 x8_1) < 33) = true:=decide_eq_true c7
       clear c7
       obtain rfl:=Option.some.inj H
       have p6 : 0 ≤ (x8_1 : Int):=of_decide_eq_true (by first|(with_reducible assumption)|assumption)
       have q6 : x8_1 < (a0.size : Int):=of_decide_eq_true (by first|(with_reducible assumption)|assumption)
       have hx6:=bt_at a0 x8_1
       replace p6:=eq_true p6
       replace q6:=eq_true q6
       go_wp2
       go_ret
       exact ⟨by first|rfl|(simp;done)|(simp [*];done),by repeat (first|exact Drawn0.refl _|apply Drawn0.step)⟩
      ·rw [if_neg c7] at H
       have c7b0 : decide ((bt a0 x8_1) < 33) = false:=decide_eq_false c7
       clear c7
       by_cases c9 : (bt a0 x8_1) > 126
       ·rw [if_pos c9] at H
        have c9b0 : decide (126 < (bt a0 x8_1)) = true:=decide_eq_true c9
        clear c9
        obtain rfl:=Option.some.inj H
        have p6 : 0 ≤ (x8_1 : Int):=of_decide_eq_true (by first|(with_reducible assumption)|assumption)
        have q6 : x8_1 < (a0.size : Int):=of_decide_eq_true (by first|(with_reducible assumption)|assumption)
        have hx6:=bt_at a0 x8_1
        replace p6:=eq_true p6
        replace q6:=eq_true q6
        have p8 : 0 ≤ (x8_1 : Int):=of_decide_eq_true (by first|(with_reducible assumption)|assumption)
        have q8 : x8_1 < (a0.size : Int):=of_decide_eq_true (by first|(with_reducible assumption)|assumption)
        have hx8:=bt_at a0 x8_1
        replace p8:=eq_true p8
        replace q8:=eq_true q8
        go_wp2
        go_ret
        exact ⟨by first|rfl|(simp;done)|(simp [*];done),by repeat (first|exact Drawn0.refl _|apply Drawn0.step)⟩
       ·rw [if_neg c9] at H
        have c9b0 : decide (126 < (bt a0 x8_1)) = false:=decide_eq_false c9
        clear c9
        replace H:=Option.bind_eq_some_iff.mp H
        obtain ⟨t149,A110,H⟩:=H
        replace H : (if t149 ≥ 0 then (some false) else (target_all.l0 k1 a0 a1 (a0.size : Int) (wrap64 (x8_1 + 1)))) = some r:=H
        have A11:=Aside0.mk A110
        clear A110
        by_cases c12 : t149 ≥ 0
        ·rw [if_pos c12] at H
         have c12b0 : decide (0 ≤ t149) = true:=decide_eq_true c12
         clear c12
         obtain rfl:=Option.some.inj H
         have p6 : 0 ≤ (x8_1 : Int):=of_decide_eq_true (by first|(with_reducible assumption)|assumption)
         have q6 : x8_1 < (a0.size : Int):=of_decide_eq_true (by first|(with_reducible assumption)|assumption)
         have hx6:=bt_at a0 x8_1
         replace p6:=eq_true p6
         replace q6:=eq_true q6
         have p8 : 0 ≤ (x8_1 : Int):=of_decide_eq_true (by first|(with_reducible assumption)|assumption)
         have q8 : x8_1 < (a0.size : Int):=of_decide_eq_true (by first|(with_reducible assumption)|assumption)
         have hx8:=bt_at a0 x8_1
         replace p8:=eq_true p8
         replace q8:=eq_true q8
         have p10 : 0 ≤ (x8_1 : Int):=of_decide_eq_true (by first|(with_reducible assumption)|assumption)
         have q10 : x8_1 < (a0.size : Int):=of_decide_eq_true (by first|(with_reducible assumption)|assumption)
         have hx10:=bt_at a0 x8_1
         replace p10:=eq_true p10
         replace q10:=eq_true q10
         go_wp2_with (first|(go_at_call 74;(with_reducible refine (strings_IndexByte.calls a1 (bt a0 x8_1) t149 _ A11.out).mono ?_);rintro e w' ⟨rfl,⟨nd,rfl⟩⟩))
         go_ret
         exact ⟨by first|rfl|(simp;done)|(simp [*];done),by repeat (first|exact Drawn0.refl _|apply Drawn0.step)⟩
        ·rw [if_neg c12] at H
         have c12b0 : decide (0 ≤ t149) = false:=decide_eq_false c12
         clear c12
         have H':=Aside0.mk H
         clear H
         have p6 : 0 ≤ (x8_1 : Int):=of_decide_eq_true (by first|(with_reducible assumption)|assumption)
         have q6 : x8_1 < (a0.size : Int):=of_decide_eq_true (by first|(with_reducible assumption)|assumption)
         have hx6:=bt_at a0 x8_1
         replace p6:=eq_true p6
         replace q6:=eq_true q6
         have p8 : 0 ≤ (x8_1 : Int):=of_decide_eq_true (by first|(with_reducible assumption)|assumption)
         have q8 : x8_1 < (a0.size : Int):=of_decide_eq_true (by first|(with_reducible assumption)|assumption)
         have hx8:=bt_at a0 x8_1
         replace p8:=eq_true p8
         replace q8:=eq_true q8
         have p10 : 0 ≤ (x8_1 : Int):=of_decide_eq_true (by first|(with_reducible assumption)|assumption)
         have q10 : x8_1 < (a0.size : Int):=of_decide_eq_true (by first|(with_reducible assumption)|assumption)
         have hx10:=bt_at a0 x8_1
         replace p10:=eq_true p10
         replace q10:=eq_true q10
         go_wp2_with (first|(go_at_call 74;(with_reducible refine (strings_IndexByte.calls a1 (bt a0 x8_1) t149 _ A11.out).mono ?_);rintro e w' ⟨rfl,⟨nd,rfl⟩⟩))
         go_roundg k1
         case measure => have:=HK1.out;omega
         case rel => exact ⟨(wrap64 (x8_1 + 1)),(by first|rfl|(simp;done)|(simp [*];done)),H',⟨by have:=HK1.out;omega⟩,by repeat (first|exact Drawn0.refl _|apply Drawn0.step)⟩
     ·rw [if_neg c5] at H
      exact absurd H (by simp)
    ·rw [if_neg c4] at H
     exact absurd H (by simp)
   ·rw [if_neg c3] at H
    have c3b0 : decide (x8_1 < (a0.size : Int)) = false:=decide_eq_false c3
    clear c3
    obtain rfl:=Option.some.inj H
    go_wp2
    go_ret
    exact ⟨by first|rfl|(simp;done)|(simp [*];done),by repeat (first|exact Drawn0.refl _|apply Drawn0.step)⟩

/-! ### origin_Key: function 25 -/
def origin_Key.f (k : Nat) (a0_0 : ByteArray) (a0_1 : ByteArray) (a0_2 : Int) : Option (ByteArray):=(origin_Check.f k a0_0 a0_1 a0_2).bind fun t151 => (if t151 = true then (if a0_0.size + 3 ≤ 9223372036854775807 then (if (a0_0 ++ (⟨#[58,47,47]⟩ : ByteArray)).size + a0_1.size ≤ 9223372036854775807 then (if ((a0_0 ++ (⟨#[58,47,47]⟩ : ByteArray)) ++ a0_1).size + 1 ≤ 9223372036854775807 then ((strconv_Itoa.f a0_2).bind fun t152 => (if (((a0_0 ++ (⟨#[58,47,47]⟩ : ByteArray)) ++ a0_1) ++ (⟨#[58]⟩ : ByteArray)).size + t152.size ≤ 9223372036854775807 then (some ((((a0_0 ++ (⟨#[58,47,47]⟩ : ByteArray)) ++ a0_1) ++ (⟨#[58]⟩ : ByteArray)) ++ t152)) else (none))) else (none)) else (none)) else (none)) else (some (⟨#[]⟩ : ByteArray)))
theorem origin_Key.mono : ∀ a0 a1 a2 k,LeO (origin_Key.f k a0 a1 a2) (origin_Key.f (k + 1) a0 a1 a2):=by
 intro a0 a1 a2 k
 unfold origin_Key.f
 repeat' first
   | (with_reducible exact origin_Check.mono _ _ _ _)
   | (with_reducible exact LeO.refl _)
   | (with_reducible exact LeO.none _)
   | (with_reducible refine LeO.ite ?_ ?_)
   | (with_reducible refine LeO.bind ?_ (fun _ => ?_))
   | exact origin_Check.mono _ _ _ _
   | exact LeO.none _
   | refine LeO.ite ?_ ?_
   | refine LeO.bind ?_ (fun _ => ?_)
def origin_Key.T3 : Bool × List (List Nat × List Nat):=(true,[([],[]),([0],[0]),([1],[1]),([],[]),([3],[3]),([2,4],[2,4]),([5],[5]),([],[]),([7],[7]),([8],[8]),([6,9],[6,9]),([10,9,0,1,2,3,4,5,6,7,8,9,10],[10])])
def origin_Key.B3 : List Nat:=[0,1,3,0,8,31,63,0,128,384,1023,2047]
theorem origin_Key.tab3 : rtab .any (opsOf Tryd.f25 3) = origin_Key.T3:=by kernel_rfl
theorem origin_Key.bits3 : waitsOk origin_Key.T3.2 origin_Key.B3 = true:=by kernel_rfl
set_option maxHeartbeats 8000000 in
set_option maxRecDepth 100000 in
theorem origin_Key.calls (k : Nat) (a0_0 : ByteArray) (a0_1 : ByteArray) (a0_2 : Int) (r : ByteArray) (w : World) (hM_ : Aside0 (LaidW w)) (h : origin_Key.f k a0_0 a0_1 a0_2 = some r) :
  Calls Tryd.prog 25 #[.agg #[.string a0_0,.string a0_1,.int .i64 a0_2]] w fun e w' => e = .returned (.string r) ∧ Below w.heap.size w w':=by
 have hu23:=Tryd.underlying23
 have HB:=Aside0.mk (Below.refl w.heap.size w)
 have H : ((origin_Check.f k a0_0 a0_1 a0_2).bind fun t151 => (if t151 = true then (if a0_0.size + 3 ≤ 9223372036854775807 then (if (a0_0 ++ (⟨#[58,47,47]⟩ : ByteArray)).size + a0_1.size ≤ 9223372036854775807 then (if ((a0_0 ++ (⟨#[58,47,47]⟩ : ByteArray)) ++ a0_1).size + 1 ≤ 9223372036854775807 then ((strconv_Itoa.f a0_2).bind fun t152 => (if (((a0_0 ++ (⟨#[58,47,47]⟩ : ByteArray)) ++ a0_1) ++ (⟨#[58]⟩ : ByteArray)).size + t152.size ≤ 9223372036854775807 then (some ((((a0_0 ++ (⟨#[58,47,47]⟩ : ByteArray)) ++ a0_1) ++ (⟨#[58]⟩ : ByteArray)) ++ t152)) else (none))) else (none)) else (none)) else (none)) else (some (⟨#[]⟩ : ByteArray)))) = some r:=h
 clear h
 replace H:=Option.bind_eq_some_iff.mp H
 obtain ⟨t151,A20,H⟩:=H
 replace H : (if t151 = true then (if a0_0.size + 3 ≤ 9223372036854775807 then (if (a0_0 ++ (⟨#[58,47,47]⟩ : ByteArray)).size + a0_1.size ≤ 9223372036854775807 then (if ((a0_0 ++ (⟨#[58,47,47]⟩ : ByteArray)) ++ a0_1).size + 1 ≤ 9223372036854775807 then ((strconv_Itoa.f a0_2).bind fun t152 => (if (((a0_0 ++ (⟨#[58,47,47]⟩ : ByteArray)) ++ a0_1) ++ (⟨#[58]⟩ : ByteArray)).size + t152.size ≤ 9223372036854775807 then (some ((((a0_0 ++ (⟨#[58,47,47]⟩ : ByteArray)) ++ a0_1) ++ (⟨#[58]⟩ : ByteArray)) ++ t152)) else (none))) else (none)) else (none)) else (none)) else (some (⟨#[]⟩ : ByteArray))) = some r:=H
 have A2:=Aside0.mk A20
 clear A20
 by_cases c3 : t151 = true
 ·subst c3
  have H1 : (if a0_0.size + 3 ≤ 9223372036854775807 then (if (a0_0 ++ (⟨#[58,47,47]⟩ : ByteArray)).size + a0_1.size ≤ 9223372036854775807 then (if ((a0_0 ++ (⟨#[58,47,47]⟩ : ByteArray)) ++ a0_1).size + 1 ≤ 9223372036854775807 then ((strconv_Itoa.f a0_2).bind fun t152 => (if (((a0_0 ++ (⟨#[58,47,47]⟩ : ByteArray)) ++ a0_1) ++ (⟨#[58]⟩ : ByteArray)).size + t152.size ≤ 9223372036854775807 then (some ((((a0_0 ++ (⟨#[58,47,47]⟩ : ByteArray)) ++ a0_1) ++ (⟨#[58]⟩ : ByteArray)) ++ t152)) else (none))) else (none)) else (none)) else (none)) = some r:=by rw [if_pos rfl] at H;exact H
  clear H
  have H:=H1
  clear H1
  by_cases c4 : a0_0.size + 3 ≤ 9223372036854775807
  ·rw [if_pos c4] at H
   have c4b0:=eq_true c4
   have c4b1 : decide (a0_0.size + 3 ≤ 9223372036854775807) = true:=decide_eq_true c4
   try have c4b2 : (9223372036854775807 < a0_0.size + 3) = False:=eq_false (Nat.not_lt.2 c4)
   by_cases c5 : (a0_0 ++ (⟨#[58,47,47]⟩ : ByteArray)).size + a0_1.size ≤ 9223372036854775807
   ·rw [if_pos c5] at H
    try (have c5b5:=c5;simp only [ByteArray.size_append,Int.natCast_add] at c5b5)
    have c5b0:=eq_true c5
    have c5b1 : decide ((a0_0 ++ (⟨#[58,47,47]⟩ : ByteArray)).size + a0_1.size ≤ 9223372036854775807) = true:=decide_eq_true c5
    try have c5b2 : (9223372036854775807 < (a0_0 ++ (⟨#[58,47,47]⟩ : ByteArray)).size + a0_1.size) = False:=eq_false (Nat.not_lt.2 c5)
    try have c5b3 : (9223372036854775807 < a0_0.size + 3 + a0_1.size) = False:=eq_false (Nat.not_lt.2 (by have z_:=c5;simp only [ByteArray.size_append] at z_;first|exact z_|simpa using z_))
    by_cases c6 : ((a0_0 ++ (⟨#[58,47,47]⟩ : ByteArray)) ++ a0_1).size + 1 ≤ 9223372036854775807
    ·rw [if_pos c6] at H
     try (have c6b5:=c6;simp only [ByteArray.size_append,Int.natCast_add] at c6b5)
     have c6b0:=eq_true c6
     have c6b1 : decide (((a0_0 ++ (⟨#[58,47,47]⟩ : ByteArray)) ++ a0_1).size + 1 ≤ 9223372036854775807) = true:=decide_eq_true c6
     try have c6b2 : (9223372036854775807 < ((a0_0 ++ (⟨#[58,47,47]⟩ : ByteArray)) ++ a0_1).size + 1) = False:=eq_false (Nat.not_lt.2 c6)
     try have c6b3 : (9223372036854775807 < a0_0.size + 3 + a0_1.size + 1) = False:=eq_false (Nat.not_lt.2 (by have z_:=c6;simp only [ByteArray.size_append] at z_;first|exact z_|simpa using z_))
     replace H:=Option.bind_eq_some_iff.mp H
     obtain ⟨t152,A70,H⟩:=H
     replace H : (if (((a0_0 ++ (⟨#[58,47,47]⟩ : ByteArray)) ++ a0_1) ++ (⟨#[58]⟩ : ByteArray)).size + t152.size ≤ 9223372036854775807 then (some ((((a0_0 ++ (⟨#[58,47,47]⟩ : ByteArray)) ++ a0_1) ++ (⟨#[58]⟩ : ByteArray)) ++ t152)) else (none)) = some r:=H
     have A7:=Aside0.mk A70
     clear A70
     by_cases c8 : (((a0_0 ++ (⟨#[58,47,47]⟩ : ByteArray)) ++ a0_1) ++ (⟨#[58]⟩ : ByteArray)).size + t152.size ≤ 9223372036854775807
     ·rw [if_pos c8] at H
      try (have c8b5:=c8;simp only [ByteArray.size_append,Int.natCast_add] at c8b5)
      have c8b0:=eq_true c8
      have c8b1 : decide ((((a0_0 ++ (⟨#[58,47,47]⟩ : ByteArray)) ++ a0_1) ++ (⟨#[58]⟩ : ByteArray)).size + t152.size ≤ 9223372036854775807) = true:=decide_eq_true c8
      try have c8b2 : (9223372036854775807 < (((a0_0 ++ (⟨#[58,47,47]⟩ : ByteArray)) ++ a0_1) ++ (⟨#[58]⟩ : ByteArray)).size + t152.size) = False:=eq_false (Nat.not_lt.2 c8)
      try have c8b3 : (9223372036854775807 < a0_0.size + 3 + a0_1.size + 1 + t152.size) = False:=eq_false (Nat.not_lt.2 (by have z_:=c8;simp only [ByteArray.size_append] at z_;first|exact z_|simpa using z_))
      obtain rfl:=Option.some.inj H
      go_enter Tryd.func25,Tryd.ntmps25
      try go_wp2_with (first|((with_reducible refine gate_dst (N:=1) rfl ?_);refine box_event ?hg (N:=1) ?hd (cs:=#[.string a0_0,.string a0_1,.int .i64 a0_2]) (t:=23) ?hr ?_;(case hd => rfl);(case hg => rfl);(case hr => first|(go_simp;done)|(go_simp;rfl));intro gb150 hg w9 hbox hb;have n0_:=Aside0.mk (below_step (by repeat (first|(with_reducible first|exact HB.out|apply below_alloc|apply pw_below_drewN|apply below_drew1)|exact HB.out)) hb);have n1_:=Aside0.mk (hbox);have n2_:=Aside0.mk ((by rw [hg];exact (below_size (by repeat (first|(with_reducible first|exact HB.out|apply below_alloc|apply pw_below_drewN|apply below_drew1)|exact HB.out))) : w.heap.size ≤ gb150));have n3_:=Aside0.mk ((by rw [hg];exact (below_size (by repeat (first|(with_reducible first|exact HB.out|apply below_alloc|apply pw_below_drewN|apply below_drew1)|exact HB.out))) : w.heap.size ≤ gb150));clear HB;have HB:=n0_;have BK150:=n1_;have GW150:=n2_;have GE150:=n3_;clear n0_ n1_ n2_ n3_;clear hb hbox hg;have hcz10_0 : w9.cell? ⟨gb150,0,none⟩ = some (.string a0_0):=(blk_cell BK150.out 0).trans rfl;have hcz10_1 : w9.cell? ⟨gb150,1,none⟩ = some (.string a0_1):=(blk_cell BK150.out 1).trans rfl;have hcz10_2 : w9.cell? ⟨gb150,2,none⟩ = some (.int .i64 a0_2):=(blk_cell BK150.out 2).trans rfl;have hfz10_0:=blk_frozen BK150.out 0;have hfz10_1:=blk_frozen BK150.out 1;have hfz10_2:=blk_frozen BK150.out 2)|((with_reducible refine gate_callee (f:=21) rfl ?_);refine goesL_ (some 4) rfl rfl Tryd.func21 (by kernel_rfl) rfl #[.agg #[.string a0_0,.string a0_1,.int .i64 a0_2]] rfl (by (try simp only [List.map_toArray,List.map_cons,List.map_nil]);first|done|rfl|(simp only [List.length_drop,List.length_take];rfl)) ?_;(with_reducible refine (origin_Check.calls k a0_0 a0_1 a0_2 true _ A2.out).mono ?_);rintro e w11 ⟨rfl,hb⟩;refine ⟨_,rfl,?_⟩;have n0_:=Aside0.mk (blk_below (g:=gb150) (o:=.cells #[.string a0_0,.string a0_1,.int .i64 a0_2] 23 (0,0)) (by (with_reducible repeat (first|refine blk_drewN ?_ _|refine blk_drew ?_|refine blk_alloc ?_ _));exact BK150.out) hb);have n1_:=Aside0.mk (below_step (by repeat (first|(with_reducible first|exact HB.out|apply below_alloc|apply pw_below_drewN|apply below_drew1|refine below_set ?_ GE150.out)|exact HB.out)) hb);clear BK150;clear HB;have BK150:=n0_;have HB:=n1_;clear n0_ n1_;(try clear hb);(try clear hb2);(try clear hk);(try clear hi)))
      have n0_:=Aside0.mk (blk_drew BK150.out)
      have n1_:=Aside0.mk (below_drew1 HB.out)
      clear BK150
      clear HB
      have BK150:=n0_
      have HB:=n1_
      clear n0_ n1_
      refine start_ (n:=12) (S:=fun w' => w'.cell? ⟨gb150,0,none⟩ = some (.string a0_0) ∧ w'.cell? ⟨gb150,1,none⟩ = some (.string a0_1) ∧ w'.cell? ⟨gb150,2,none⟩ = some (.int .i64 a0_2)) (ds:=[]) #[false,false,false,false,false,false,false,false,false,false,false,false] (by kernel_rfl) rfl rfl ⟨(blk_cell BK150.out 0).trans rfl,(blk_cell BK150.out 1).trans rfl,(blk_cell BK150.out 2).trans rfl⟩ (fun hHeld => ?_);refine with_tabW origin_Key.tab3 origin_Key.bits3 (fun HT_ HW_ => ?_)
      generalize w11.drew = w12 at BK150 HB hHeld ⊢
      refine pure_ (i:=0) (N:=some 6) (v:=?_) (a':=?_) #[true,false,false,false,false,false,false,false,false,false,false,false] rfl rfl (any_of HT_.out (by kernel_rfl)) (fun _ _ _ h => h) (Or.inl ⟨by rfl,?_⟩) ?_ ?_
      rotate_left
      ·intro w'
       go_simp
       with_reducible rfl
      rotate_left
      ·simp only [Act.put,List.setIfInBounds_toArray,List.set_cons_zero,List.set_cons_succ,i64_w,i32_w]
       rfl
      refine pure_ (i:=3) (N:=some 9) (v:=?_) (a':=?_) #[true,false,false,true,false,false,false,false,false,false,false,false] rfl rfl (any_of HT_.out (by kernel_rfl)) (fun _ _ _ h => h) (Or.inl ⟨by rfl,?_⟩) ?_ ?_
      rotate_left
      ·intro w'
       go_simp
       with_reducible rfl
      rotate_left
      ·simp only [Act.put,List.setIfInBounds_toArray,List.set_cons_zero,List.set_cons_succ,i64_w,i32_w]
       rfl
      refine pure_ (i:=7) (N:=some 13) (v:=?_) (a':=?_) #[true,false,false,true,false,false,false,true,false,false,false,false] rfl rfl (any_of HT_.out (by kernel_rfl)) (fun _ _ _ h => h) (Or.inl ⟨by rfl,?_⟩) ?_ ?_
      rotate_left
      ·intro w'
       go_simp
       with_reducible rfl
      rotate_left
      ·simp only [Act.put,List.setIfInBounds_toArray,List.set_cons_zero,List.set_cons_succ,i64_w,i32_w]
       rfl
      refine take_ (i:=1) (N:=some 7) (v:=?_) (a':=?_) #[true,true,false,true,false,false,false,true,false,false,false,false] rfl rfl (take_ofW HT_.out HW_.out (by kernel_rfl)) (fun _ _ _ h => h) (Or.inl ⟨by rfl,?_⟩) hHeld ?_ ?_
      rotate_left
      ·rintro w' ⟨s0,s1,s2⟩
       go_simp
       with_reducible rfl
      rotate_left
      ·simp only [Act.put,List.setIfInBounds_toArray,List.set_cons_zero,List.set_cons_succ,i64_w,i32_w]
       rfl
      refine pure_ (i:=2) (N:=some 8) (v:=?_) (a':=?_) #[true,true,true,true,false,false,false,true,false,false,false,false] rfl rfl (any_of HT_.out (by kernel_rfl)) (fun _ _ _ h => h) (Or.inl ⟨by rfl,?_⟩) ?_ ?_
      rotate_left
      ·intro w'
       go_simp
       with_reducible rfl
      rotate_left
      ·simp only [Act.put,List.setIfInBounds_toArray,List.set_cons_zero,List.set_cons_succ,i64_w,i32_w]
       rfl
      refine take_ (i:=4) (N:=some 10) (v:=?_) (a':=?_) #[true,true,true,true,true,false,false,true,false,false,false,false] rfl rfl (take_ofW HT_.out HW_.out (by kernel_rfl)) (fun _ _ _ h => h) (Or.inl ⟨by rfl,?_⟩) hHeld ?_ ?_
      rotate_left
      ·rintro w' ⟨s0,s1,s2⟩
       go_simp
       with_reducible rfl
      rotate_left
      ·simp only [Act.put,List.setIfInBounds_toArray,List.set_cons_zero,List.set_cons_succ,i64_w,i32_w]
       rfl
      refine pure_ (i:=5) (N:=some 11) (v:=?_) (a':=?_) #[true,true,true,true,true,true,false,true,false,false,false,false] rfl rfl (any_of HT_.out (by kernel_rfl)) (fun _ _ _ h => h) (Or.inl ⟨by rfl,?_⟩) ?_ ?_
      rotate_left
      ·intro w'
       go_simp
       with_reducible rfl
      rotate_left
      ·simp only [Act.put,List.setIfInBounds_toArray,List.set_cons_zero,List.set_cons_succ,i64_w,i32_w]
       rfl
      refine pure_ (i:=6) (N:=some 12) (v:=?_) (a':=?_) #[true,true,true,true,true,true,true,true,false,false,false,false] rfl rfl (any_of HT_.out (by kernel_rfl)) (fun _ _ _ h => h) (Or.inl ⟨by rfl,?_⟩) ?_ ?_
      rotate_left
      ·intro w'
       go_simp
       with_reducible rfl
      rotate_left
      ·simp only [Act.put,List.setIfInBounds_toArray,List.set_cons_zero,List.set_cons_succ,i64_w,i32_w]
       rfl
      refine take_ (i:=8) (N:=some 14) (v:=?_) (a':=?_) #[true,true,true,true,true,true,true,true,true,false,false,false] rfl rfl (take_ofW HT_.out HW_.out (by kernel_rfl)) (fun _ _ _ h => h) (Or.inl ⟨by rfl,?_⟩) hHeld ?_ ?_
      rotate_left
      ·rintro w' ⟨s0,s1,s2⟩
       go_simp
       with_reducible rfl
      rotate_left
      ·simp only [Act.put,List.setIfInBounds_toArray,List.set_cons_zero,List.set_cons_succ,i64_w,i32_w]
       rfl
      refine one_ (i:=9) (N:=some 15) #[true,true,true,true,true,true,true,true,true,true,false,false] rfl rfl (one_of HT_.out (by kernel_rfl)) (by decide) (fun K hK => ?_)
      refine goes_ Tryd.func51 (by kernel_rfl) rfl #[.int .i64 a0_2] (by rfl) rfl rfl (by (try simp only [List.map_toArray,List.map_cons,List.map_nil]);first|done|rfl|(simp only [List.length_drop,List.length_take];rfl)) ?_
      with_reducible refine (strconv_Itoa.calls a0_2 t152 _ ?side1 A7.out).mono ?_
      (case side1 => exact ⟨by repeat (first|(with_reducible exact hM_.out)|(with_reducible exact LaidW.below hM_.out HB.out)|(with_reducible refine LaidW.alloc ?_ _)|(with_reducible refine LaidW.drewN ?_ _)|(with_reducible refine LaidW.drew ?_)|exact LaidW.below hM_.out (by repeat (first|(with_reducible first|exact HB.out|apply below_alloc|apply pw_below_drewN|apply below_drew1|refine below_set ?_ GE150.out)|exact HB.out)))⟩)
      rintro e w13 ⟨rfl,hb⟩
      refine ⟨_,rfl,?_⟩
      have n0_:=Aside0.mk (blk_below (g:=gb150) (o:=.cells #[.string a0_0,.string a0_1,.int .i64 a0_2] 23 (0,0)) (by (with_reducible repeat (first|refine blk_drewN ?_ _|refine blk_drew ?_|refine blk_alloc ?_ _));exact BK150.out) hb)
      have n1_:=Aside0.mk (below_step (by repeat (first|(with_reducible first|exact HB.out|apply below_alloc|apply pw_below_drewN|apply below_drew1|refine below_set ?_ GE150.out)|exact HB.out)) hb)
      clear BK150
      clear HB
      have BK150:=n0_
      have HB:=n1_
      clear n0_ n1_
      (try clear hb)
      (try clear hb2)
      (try clear hk)
      (try clear hi)
      refine hK.out _ _ ⟨(blk_cell BK150.out 0).trans rfl,(blk_cell BK150.out 1).trans rfl,(blk_cell BK150.out 2).trans rfl⟩ (fun hHeld => ?_)
      clear hK K
      refine norm_ (a':=?_) ?_ ?_
      rotate_left
      ·show Act.put _ (some 15) _ = _
       simp only [Act.put,List.setIfInBounds_toArray,List.set_cons_zero,List.set_cons_succ,i64_w,i32_w]
       rfl
      refine pure_ (i:=10) (N:=some 16) (v:=?_) (a':=?_) #[true,true,true,true,true,true,true,true,true,true,true,false] rfl rfl (any_of HT_.out (by kernel_rfl)) (fun _ _ _ h => h) (Or.inl ⟨by rfl,?_⟩) ?_ ?_
      rotate_left
      ·intro w'
       go_simp
       with_reducible rfl
      rotate_left
      ·simp only [Act.put,List.setIfInBounds_toArray,List.set_cons_zero,List.set_cons_succ,i64_w,i32_w]
       rfl
      refine pure_ (i:=11) (N:=some 2) (v:=?_) (a':=?_) #[true,true,true,true,true,true,true,true,true,true,true,true] rfl rfl (any_of HT_.out (by kernel_rfl)) (fun _ _ _ h => h) (Or.inl ⟨by rfl,?_⟩) ?_ ?_
      rotate_left
      ·intro w'
       go_simp
       with_reducible rfl
      rotate_left
      ·simp only [Act.put,List.setIfInBounds_toArray,List.set_cons_zero,List.set_cons_succ,i64_w,i32_w]
       rfl
      refine done_ (done_of HT_.out (by kernel_rfl)) ?_
      try go_wp2
      go_ret
      exact ⟨by first|rfl|(simp [errW_none,errW_some] <;> rfl)|(simp [*,errW_none,errW_some] <;> rfl),by repeat (first|(with_reducible first|exact HB.out|apply below_alloc|apply pw_below_drewN|apply below_drew1|refine below_set ?_ GE150.out)|exact HB.out)⟩
     ·rw [if_neg c8] at H
      exact absurd H (by simp)
    ·rw [if_neg c6] at H
     exact absurd H (by simp)
   ·rw [if_neg c5] at H
    exact absurd H (by simp)
  ·rw [if_neg c4] at H
   exact absurd H (by simp)
 ·replace c3:=Bool.eq_false_iff.mpr c3
  subst c3
  have H1 : (some (⟨#[]⟩ : ByteArray)) = some r:=by rw [if_neg (show ¬ (false = true) by decide)] at H;exact H
  clear H
  have H:=H1
  clear H1
  obtain rfl:=Option.some.inj H
  go_enter Tryd.func25,Tryd.ntmps25
  go_wp2_with (first|((with_reducible refine gate_dst (N:=1) rfl ?_);refine box_event ?hg (N:=1) ?hd (cs:=#[.string a0_0,.string a0_1,.int .i64 a0_2]) (t:=23) ?hr ?_;(case hd => rfl);(case hg => rfl);(case hr => first|(go_simp;done)|(go_simp;rfl));intro gb150 hg w14 hbox hb;have n0_:=Aside0.mk (below_step (by repeat (first|(with_reducible first|exact HB.out|apply below_alloc|apply pw_below_drewN|apply below_drew1)|exact HB.out)) hb);have n1_:=Aside0.mk (hbox);have n2_:=Aside0.mk ((by rw [hg];exact (below_size (by repeat (first|(with_reducible first|exact HB.out|apply below_alloc|apply pw_below_drewN|apply below_drew1)|exact HB.out))) : w.heap.size ≤ gb150));have n3_:=Aside0.mk ((by rw [hg];exact (below_size (by repeat (first|(with_reducible first|exact HB.out|apply below_alloc|apply pw_below_drewN|apply below_drew1)|exact HB.out))) : w.heap.size ≤ gb150));clear HB;have HB:=n0_;have BK150:=n1_;have GW150:=n2_;have GE150:=n3_;clear n0_ n1_ n2_ n3_;clear hb hbox hg;have hcz15_0 : w14.cell? ⟨gb150,0,none⟩ = some (.string a0_0):=(blk_cell BK150.out 0).trans rfl;have hcz15_1 : w14.cell? ⟨gb150,1,none⟩ = some (.string a0_1):=(blk_cell BK150.out 1).trans rfl;have hcz15_2 : w14.cell? ⟨gb150,2,none⟩ = some (.int .i64 a0_2):=(blk_cell BK150.out 2).trans rfl;have hfz15_0:=blk_frozen BK150.out 0;have hfz15_1:=blk_frozen BK150.out 1;have hfz15_2:=blk_frozen BK150.out 2)|((with_reducible refine gate_callee (f:=21) rfl ?_);refine goesL_ (some 4) rfl rfl Tryd.func21 (by kernel_rfl) rfl #[.agg #[.string a0_0,.string a0_1,.int .i64 a0_2]] rfl (by (try simp only [List.map_toArray,List.map_cons,List.map_nil]);first|done|rfl|(simp only [List.length_drop,List.length_take];rfl)) ?_;(with_reducible refine (origin_Check.calls k a0_0 a0_1 a0_2 false _ A2.out).mono ?_);rintro e w16 ⟨rfl,hb⟩;refine ⟨_,rfl,?_⟩;have n0_:=Aside0.mk (blk_below (g:=gb150) (o:=.cells #[.string a0_0,.string a0_1,.int .i64 a0_2] 23 (0,0)) (by (with_reducible repeat (first|refine blk_drewN ?_ _|refine blk_drew ?_|refine blk_alloc ?_ _));exact BK150.out) hb);have n1_:=Aside0.mk (below_step (by repeat (first|(with_reducible first|exact HB.out|apply below_alloc|apply pw_below_drewN|apply below_drew1|refine below_set ?_ GE150.out)|exact HB.out)) hb);clear BK150;clear HB;have BK150:=n0_;have HB:=n1_;clear n0_ n1_;(try clear hb);(try clear hb2);(try clear hk);(try clear hi)))
  go_ret
  exact ⟨by first|rfl|(simp [errW_none,errW_some] <;> rfl)|(simp [*,errW_none,errW_some] <;> rfl),by repeat (first|(with_reducible first|exact HB.out|apply below_alloc|apply pw_below_drewN|apply below_drew1|refine below_set ?_ GE150.out)|exact HB.out)⟩

/-! ### origin_Show: function 23 -/
def origin_Show.f (k : Nat) (a0_0 : ByteArray) (a0_1 : ByteArray) (a0_2 : Int) : Option (ByteArray):=(origin_Check.f k a0_0 a0_1 a0_2).bind fun t154 => (if t154 = true then ((origin_Default.f a0_0).bind fun t155 => (if a0_2 = t155 then (if a0_0.size + 3 ≤ 9223372036854775807 then (if (a0_0 ++ (⟨#[58,47,47]⟩ : ByteArray)).size + a0_1.size ≤ 9223372036854775807 then (some ((a0_0 ++ (⟨#[58,47,47]⟩ : ByteArray)) ++ a0_1)) else (none)) else (none)) else ((origin_Key.f k a0_0 a0_1 a0_2).bind fun t156 => (some t156)))) else ((origin_Key.f k a0_0 a0_1 a0_2).bind fun t157 => (some t157)))
theorem origin_Show.mono : ∀ a0 a1 a2 k,LeO (origin_Show.f k a0 a1 a2) (origin_Show.f (k + 1) a0 a1 a2):=by
 intro a0 a1 a2 k
 unfold origin_Show.f
 repeat' first
   | (with_reducible exact origin_Check.mono _ _ _ _)
   | (with_reducible exact origin_Key.mono _ _ _ _)
   | (with_reducible exact LeO.refl _)
   | (with_reducible exact LeO.none _)
   | (with_reducible refine LeO.ite ?_ ?_)
   | (with_reducible refine LeO.bind ?_ (fun _ => ?_))
   | exact origin_Check.mono _ _ _ _
   | exact origin_Key.mono _ _ _ _
   | exact LeO.none _
   | refine LeO.ite ?_ ?_
   | refine LeO.bind ?_ (fun _ => ?_)
def origin_Show.T1 : Bool × List (List Nat × List Nat):=(true,[([],[]),([0],[0]),([1,1],[1]),([2],[2]),([3,2],[2,3]),([2],[2]),([5,2],[2,5]),([6,2,2],[2,6]),([4,7,2],[2,4,7]),([2,8],[2,8])])
def origin_Show.B1 : List Nat:=[0,1,3,7,15,7,39,103,255,511]
theorem origin_Show.tab1 : rtab .any (opsOf Tryd.f23 1) = origin_Show.T1:=by kernel_rfl
theorem origin_Show.bits1 : waitsOk origin_Show.T1.2 origin_Show.B1 = true:=by kernel_rfl
set_option maxHeartbeats 8000000 in
set_option maxRecDepth 100000 in
theorem origin_Show.calls (k : Nat) (a0_0 : ByteArray) (a0_1 : ByteArray) (a0_2 : Int) (r : ByteArray) (w : World) (hM_ : Aside0 (LaidW w)) (h : origin_Show.f k a0_0 a0_1 a0_2 = some r) :
  Calls Tryd.prog 23 #[.agg #[.string a0_0,.string a0_1,.int .i64 a0_2]] w fun e w' => e = .returned (.string r) ∧ Below w.heap.size w w':=by
 have hu23:=Tryd.underlying23
 have HB:=Aside0.mk (Below.refl w.heap.size w)
 have H : ((origin_Check.f k a0_0 a0_1 a0_2).bind fun t154 => (if t154 = true then ((origin_Default.f a0_0).bind fun t155 => (if a0_2 = t155 then (if a0_0.size + 3 ≤ 9223372036854775807 then (if (a0_0 ++ (⟨#[58,47,47]⟩ : ByteArray)).size + a0_1.size ≤ 9223372036854775807 then (some ((a0_0 ++ (⟨#[58,47,47]⟩ : ByteArray)) ++ a0_1)) else (none)) else (none)) else ((origin_Key.f k a0_0 a0_1 a0_2).bind fun t156 => (some t156)))) else ((origin_Key.f k a0_0 a0_1 a0_2).bind fun t157 => (some t157)))) = some r:=h
 clear h
 replace H:=Option.bind_eq_some_iff.mp H
 obtain ⟨t154,A20,H⟩:=H
 replace H : (if t154 = true then ((origin_Default.f a0_0).bind fun t155 => (if a0_2 = t155 then (if a0_0.size + 3 ≤ 9223372036854775807 then (if (a0_0 ++ (⟨#[58,47,47]⟩ : ByteArray)).size + a0_1.size ≤ 9223372036854775807 then (some ((a0_0 ++ (⟨#[58,47,47]⟩ : ByteArray)) ++ a0_1)) else (none)) else (none)) else ((origin_Key.f k a0_0 a0_1 a0_2).bind fun t156 => (some t156)))) else ((origin_Key.f k a0_0 a0_1 a0_2).bind fun t157 => (some t157))) = some r:=H
 have A2:=Aside0.mk A20
 clear A20
 by_cases c3 : t154 = true
 ·subst c3
  have H1 : ((origin_Default.f a0_0).bind fun t155 => (if a0_2 = t155 then (if a0_0.size + 3 ≤ 9223372036854775807 then (if (a0_0 ++ (⟨#[58,47,47]⟩ : ByteArray)).size + a0_1.size ≤ 9223372036854775807 then (some ((a0_0 ++ (⟨#[58,47,47]⟩ : ByteArray)) ++ a0_1)) else (none)) else (none)) else ((origin_Key.f k a0_0 a0_1 a0_2).bind fun t156 => (some t156)))) = some r:=by rw [if_pos rfl] at H;exact H
  clear H
  have H:=H1
  clear H1
  replace H:=Option.bind_eq_some_iff.mp H
  obtain ⟨t155,A40,H⟩:=H
  replace H : (if a0_2 = t155 then (if a0_0.size + 3 ≤ 9223372036854775807 then (if (a0_0 ++ (⟨#[58,47,47]⟩ : ByteArray)).size + a0_1.size ≤ 9223372036854775807 then (some ((a0_0 ++ (⟨#[58,47,47]⟩ : ByteArray)) ++ a0_1)) else (none)) else (none)) else ((origin_Key.f k a0_0 a0_1 a0_2).bind fun t156 => (some t156))) = some r:=H
  have A4:=Aside0.mk A40
  clear A40
  by_cases c5 : a0_2 = t155
  ·rw [if_pos c5] at H
   have c5b0 : (a0_2 == t155) = true:=beq_iff_eq.mpr c5
   have c5b1 : (a0_2 != t155) = false:=bne_eq_false_iff_eq.mpr c5
   clear c5
   by_cases c6 : a0_0.size + 3 ≤ 9223372036854775807
   ·rw [if_pos c6] at H
    have c6b0:=eq_true c6
    have c6b1 : decide (a0_0.size + 3 ≤ 9223372036854775807) = true:=decide_eq_true c6
    try have c6b2 : (9223372036854775807 < a0_0.size + 3) = False:=eq_false (Nat.not_lt.2 c6)
    by_cases c7 : (a0_0 ++ (⟨#[58,47,47]⟩ : ByteArray)).size + a0_1.size ≤ 9223372036854775807
    ·rw [if_pos c7] at H
     try (have c7b5:=c7;simp only [ByteArray.size_append,Int.natCast_add] at c7b5)
     have c7b0:=eq_true c7
     have c7b1 : decide ((a0_0 ++ (⟨#[58,47,47]⟩ : ByteArray)).size + a0_1.size ≤ 9223372036854775807) = true:=decide_eq_true c7
     try have c7b2 : (9223372036854775807 < (a0_0 ++ (⟨#[58,47,47]⟩ : ByteArray)).size + a0_1.size) = False:=eq_false (Nat.not_lt.2 c7)
     try have c7b3 : (9223372036854775807 < a0_0.size + 3 + a0_1.size) = False:=eq_false (Nat.not_lt.2 (by have z_:=c7;simp only [ByteArray.size_append] at z_;first|exact z_|simpa using z_))
     obtain rfl:=Option.some.inj H
     go_enter Tryd.func23,Tryd.ntmps23
     try go_wp2_with (first|((with_reducible refine gate_dst (N:=1) rfl ?_);refine box_event ?hg (N:=1) ?hd (cs:=#[.string a0_0,.string a0_1,.int .i64 a0_2]) (t:=23) ?hr ?_;(case hd => rfl);(case hg => rfl);(case hr => first|(go_simp;done)|(go_simp;rfl));intro gb153 hg w8 hbox hb;have n0_:=Aside0.mk (below_step (by repeat (first|(with_reducible first|exact HB.out|apply below_alloc|apply pw_below_drewN|apply below_drew1)|exact HB.out)) hb);have n1_:=Aside0.mk (hbox);have n2_:=Aside0.mk ((by rw [hg];exact (below_size (by repeat (first|(with_reducible first|exact HB.out|apply below_alloc|apply pw_below_drewN|apply below_drew1)|exact HB.out))) : w.heap.size ≤ gb153));have n3_:=Aside0.mk ((by rw [hg];exact (below_size (by repeat (first|(with_reducible first|exact HB.out|apply below_alloc|apply pw_below_drewN|apply below_drew1)|exact HB.out))) : w.heap.size ≤ gb153));clear HB;have HB:=n0_;have BK153:=n1_;have GW153:=n2_;have GE153:=n3_;clear n0_ n1_ n2_ n3_;clear hb hbox hg))
     have n0_:=Aside0.mk (blk_drew BK153.out)
     have n1_:=Aside0.mk (below_drew1 HB.out)
     clear BK153
     clear HB
     have BK153:=n0_
     have HB:=n1_
     clear n0_ n1_
     refine start_ (n:=10) (S:=fun w' => w'.cell? ⟨gb153,0,none⟩ = some (.string a0_0) ∧ w'.cell? ⟨gb153,1,none⟩ = some (.string a0_1) ∧ w'.cell? ⟨gb153,2,none⟩ = some (.int .i64 a0_2)) (ds:=[]) target_dots_b0 (by kernel_rfl) rfl rfl ⟨(blk_cell BK153.out 0).trans rfl,(blk_cell BK153.out 1).trans rfl,(blk_cell BK153.out 2).trans rfl⟩ (fun hHeld => ?_);refine with_tabW origin_Show.tab1 origin_Show.bits1 (fun HT_ HW_ => ?_)
     generalize w8.drew = w9 at BK153 HB hHeld ⊢
     refine take_ (i:=0) (N:=some 3) (v:=?_) (a':=?_) target_dots_b1 rfl rfl (take_ofW HT_.out HW_.out (by kernel_rfl)) (fun _ _ _ h => h) (Or.inl ⟨by rfl,?_⟩) hHeld ?_ ?_
     rotate_left
     ·rintro w' ⟨s0,s1,s2⟩
      go_simp
      with_reducible rfl
     rotate_left
     ·simp only [Act.put,List.setIfInBounds_toArray,List.set_cons_zero,List.set_cons_succ,i64_w,i32_w]
      rfl
     refine one_ (i:=1) (N:=some 4) target_dots_b2 rfl rfl (one_of HT_.out (by kernel_rfl)) (by decide) (fun K hK => ?_)
     refine goes_ Tryd.func21 (by kernel_rfl) rfl #[.agg #[.string a0_0,.string a0_1,.int .i64 a0_2]] (by rfl) rfl rfl (by (try simp only [List.map_toArray,List.map_cons,List.map_nil]);first|done|rfl|(simp only [List.length_drop,List.length_take];rfl)) ?_
     with_reducible refine (origin_Check.calls k a0_0 a0_1 a0_2 true _ A2.out).mono ?_
     rintro e w10 ⟨rfl,hb⟩
     refine ⟨_,rfl,?_⟩
     have n0_:=Aside0.mk (blk_below (g:=gb153) (o:=.cells #[.string a0_0,.string a0_1,.int .i64 a0_2] 23 (0,0)) (by (with_reducible repeat (first|refine blk_drewN ?_ _|refine blk_drew ?_|refine blk_alloc ?_ _));exact BK153.out) hb)
     have n1_:=Aside0.mk (below_step (by repeat (first|(with_reducible first|exact HB.out|apply below_alloc|apply pw_below_drewN|apply below_drew1|refine below_set ?_ GE153.out)|exact HB.out)) hb)
     clear BK153
     clear HB
     have BK153:=n0_
     have HB:=n1_
     clear n0_ n1_
     (try clear hb)
     (try clear hb2)
     (try clear hk)
     (try clear hi)
     refine hK.out _ _ ⟨(blk_cell BK153.out 0).trans rfl,(blk_cell BK153.out 1).trans rfl,(blk_cell BK153.out 2).trans rfl⟩ (fun hHeld => ?_)
     clear hK K
     refine norm_ (a':=?_) ?_ ?_
     rotate_left
     ·show Act.put _ (some 4) _ = _
      simp only [Act.put,List.setIfInBounds_toArray,List.set_cons_zero,List.set_cons_succ,i64_w,i32_w]
      rfl
     refine pure_ (i:=2) (N:=some 5) (v:=?_) (a':=?_) target_dots_b3 rfl rfl (any_of HT_.out (by kernel_rfl)) (fun _ _ _ h => h) (Or.inl ⟨by rfl,?_⟩) ?_ ?_
     rotate_left
     ·intro w'
      go_simp
      with_reducible rfl
     rotate_left
     ·simp only [Act.put,List.setIfInBounds_toArray,List.set_cons_zero,List.set_cons_succ,i64_w,i32_w]
      rfl
     refine pure_ (i:=3) (N:=some 6) (v:=?_) (a':=?_) target_dots_b4 rfl rfl (any_of HT_.out (by kernel_rfl)) (fun _ _ _ h => h) (Or.inl ⟨by rfl,?_⟩) ?_ ?_
     rotate_left
     ·intro w'
      go_simp
      with_reducible rfl
     rotate_left
     ·simp only [Act.put,List.setIfInBounds_toArray,List.set_cons_zero,List.set_cons_succ,i64_w,i32_w]
      rfl
     refine pure_ (i:=5) (N:=some 8) (v:=?_) (a':=?_) target_dots_b5 rfl rfl (any_of HT_.out (by kernel_rfl)) (fun _ _ _ h => h) (Or.inl ⟨by rfl,?_⟩) ?_ ?_
     rotate_left
     ·intro w'
      go_simp
      with_reducible rfl
     rotate_left
     ·simp only [Act.put,List.setIfInBounds_toArray,List.set_cons_zero,List.set_cons_succ,i64_w,i32_w]
      rfl
     refine take_ (i:=4) (N:=some 7) (v:=?_) (a':=?_) target_dots_b6 rfl rfl (take_ofW HT_.out HW_.out (by kernel_rfl)) (fun _ _ _ h => h) (Or.inl ⟨by rfl,?_⟩) hHeld ?_ ?_
     rotate_left
     ·rintro w' ⟨s0,s1,s2⟩
      go_simp
      with_reducible rfl
     rotate_left
     ·simp only [Act.put,List.setIfInBounds_toArray,List.set_cons_zero,List.set_cons_succ,i64_w,i32_w]
      rfl
     refine take_ (i:=6) (N:=some 9) (v:=?_) (a':=?_) target_dots_b7 rfl rfl (take_ofW HT_.out HW_.out (by kernel_rfl)) (fun _ _ _ h => h) (Or.inl ⟨by rfl,?_⟩) hHeld ?_ ?_
     rotate_left
     ·rintro w' ⟨s0,s1,s2⟩
      go_simp
      with_reducible rfl
     rotate_left
     ·simp only [Act.put,List.setIfInBounds_toArray,List.set_cons_zero,List.set_cons_succ,i64_w,i32_w]
      rfl
     refine one_ (i:=7) (N:=some 10) target_dots_b8 rfl rfl (one_of HT_.out (by kernel_rfl)) (by decide) (fun K hK => ?_)
     refine goes_ Tryd.func27 (by kernel_rfl) rfl #[.string a0_0] (by rfl) rfl rfl (by (try simp only [List.map_toArray,List.map_cons,List.map_nil]);first|done|rfl|(simp only [List.length_drop,List.length_take];rfl)) ?_
     with_reducible refine (origin_Default.calls a0_0 t155 _ A4.out).mono ?_
     rintro e w' ⟨rfl,⟨nd,rfl⟩⟩
     refine ⟨_,rfl,?_⟩
     refine hK.out _ _ ⟨(blk_cell BK153.out 0).trans rfl,(blk_cell BK153.out 1).trans rfl,(blk_cell BK153.out 2).trans rfl⟩ (fun hHeld => ?_)
     clear hK K
     refine norm_ (a':=?_) ?_ ?_
     rotate_left
     ·show Act.put _ (some 10) _ = _
      simp only [Act.put,List.setIfInBounds_toArray,List.set_cons_zero,List.set_cons_succ,i64_w,i32_w]
      rfl
     refine pure_ (i:=8) (N:=some 11) (v:=?_) (a':=?_) target_dots_b9 rfl rfl (any_of HT_.out (by kernel_rfl)) (fun _ _ _ h => h) (Or.inl ⟨by rfl,?_⟩) ?_ ?_
     rotate_left
     ·intro w'
      go_simp
      with_reducible rfl
     rotate_left
     ·simp only [Act.put,List.setIfInBounds_toArray,List.set_cons_zero,List.set_cons_succ,i64_w,i32_w]
      rfl
     refine pure_ (i:=9) (N:=some 12) (v:=?_) (a':=?_) target_dots_b10 rfl rfl (any_of HT_.out (by kernel_rfl)) (fun _ _ _ h => h) (Or.inl ⟨by rfl,?_⟩) ?_ ?_
     rotate_left
     ·intro w'
      go_simp
      with_reducible rfl
     rotate_left
     ·simp only [Act.put,List.setIfInBounds_toArray,List.set_cons_zero,List.set_cons_succ,i64_w,i32_w]
      rfl
     refine done_ (done_of HT_.out (by kernel_rfl)) ?_
     have hcz11_0 : w10.cell? ⟨gb153,0,none⟩ = some (.string a0_0):=(blk_cell BK153.out 0).trans rfl
     have hcz11_1 : w10.cell? ⟨gb153,1,none⟩ = some (.string a0_1):=(blk_cell BK153.out 1).trans rfl
     have hcz11_2 : w10.cell? ⟨gb153,2,none⟩ = some (.int .i64 a0_2):=(blk_cell BK153.out 2).trans rfl
     have hfz11_0:=blk_frozen BK153.out 0
     have hfz11_1:=blk_frozen BK153.out 1
     have hfz11_2:=blk_frozen BK153.out 2
     try go_wp2
     go_ret
     exact ⟨by first|rfl|(simp [errW_none,errW_some] <;> rfl)|(simp [*,errW_none,errW_some] <;> rfl),by repeat (first|(with_reducible first|exact HB.out|apply below_alloc|apply pw_below_drewN|apply below_drew1|refine below_set ?_ GE153.out)|exact HB.out)⟩
    ·rw [if_neg c7] at H
     exact absurd H (by simp)
   ·rw [if_neg c6] at H
    exact absurd H (by simp)
  ·rw [if_neg c5] at H
   have c5b0 : (a0_2 == t155) = false:=beq_eq_false_iff_ne.mpr c5
   have c5b1 : (a0_2 != t155) = true:=bne_iff_ne.mpr c5
   replace H:=Option.bind_eq_some_iff.mp H
   obtain ⟨t156,A120,H⟩:=H
   replace H : (some t156) = some r:=H
   have A12:=Aside0.mk A120
   clear A120
   obtain rfl:=Option.some.inj H
   go_enter Tryd.func23,Tryd.ntmps23
   try go_wp2_with (first|((with_reducible refine gate_dst (N:=1) rfl ?_);refine box_event ?hg (N:=1) ?hd (cs:=#[.string a0_0,.string a0_1,.int .i64 a0_2]) (t:=23) ?hr ?_;(case hd => rfl);(case hg => rfl);(case hr => first|(go_simp;done)|(go_simp;rfl));intro gb153 hg w13 hbox hb;have n0_:=Aside0.mk (below_step (by repeat (first|(with_reducible first|exact HB.out|apply below_alloc|apply pw_below_drewN|apply below_drew1)|exact HB.out)) hb);have n1_:=Aside0.mk (hbox);have n2_:=Aside0.mk ((by rw [hg];exact (below_size (by repeat (first|(with_reducible first|exact HB.out|apply below_alloc|apply pw_below_drewN|apply below_drew1)|exact HB.out))) : w.heap.size ≤ gb153));have n3_:=Aside0.mk ((by rw [hg];exact (below_size (by repeat (first|(with_reducible first|exact HB.out|apply below_alloc|apply pw_below_drewN|apply below_drew1)|exact HB.out))) : w.heap.size ≤ gb153));clear HB;have HB:=n0_;have BK153:=n1_;have GW153:=n2_;have GE153:=n3_;clear n0_ n1_ n2_ n3_;clear hb hbox hg))
   have n0_:=Aside0.mk (blk_drew BK153.out)
   have n1_:=Aside0.mk (below_drew1 HB.out)
   clear BK153
   clear HB
   have BK153:=n0_
   have HB:=n1_
   clear n0_ n1_
   refine start_ (n:=10) (S:=fun w' => w'.cell? ⟨gb153,0,none⟩ = some (.string a0_0) ∧ w'.cell? ⟨gb153,1,none⟩ = some (.string a0_1) ∧ w'.cell? ⟨gb153,2,none⟩ = some (.int .i64 a0_2)) (ds:=[]) target_dots_b0 (by kernel_rfl) rfl rfl ⟨(blk_cell BK153.out 0).trans rfl,(blk_cell BK153.out 1).trans rfl,(blk_cell BK153.out 2).trans rfl⟩ (fun hHeld => ?_);refine with_tabW origin_Show.tab1 origin_Show.bits1 (fun HT_ HW_ => ?_)
   generalize w13.drew = w14 at BK153 HB hHeld ⊢
   refine take_ (i:=0) (N:=some 3) (v:=?_) (a':=?_) target_dots_b1 rfl rfl (take_ofW HT_.out HW_.out (by kernel_rfl)) (fun _ _ _ h => h) (Or.inl ⟨by rfl,?_⟩) hHeld ?_ ?_
   rotate_left
   ·rintro w' ⟨s0,s1,s2⟩
    go_simp
    with_reducible rfl
   rotate_left
   ·simp only [Act.put,List.setIfInBounds_toArray,List.set_cons_zero,List.set_cons_succ,i64_w,i32_w]
    rfl
   refine one_ (i:=1) (N:=some 4) target_dots_b2 rfl rfl (one_of HT_.out (by kernel_rfl)) (by decide) (fun K hK => ?_)
   refine goes_ Tryd.func21 (by kernel_rfl) rfl #[.agg #[.string a0_0,.string a0_1,.int .i64 a0_2]] (by rfl) rfl rfl (by (try simp only [List.map_toArray,List.map_cons,List.map_nil]);first|done|rfl|(simp only [List.length_drop,List.length_take];rfl)) ?_
   with_reducible refine (origin_Check.calls k a0_0 a0_1 a0_2 true _ A2.out).mono ?_
   rintro e w15 ⟨rfl,hb⟩
   refine ⟨_,rfl,?_⟩
   have n0_:=Aside0.mk (blk_below (g:=gb153) (o:=.cells #[.string a0_0,.string a0_1,.int .i64 a0_2] 23 (0,0)) (by (with_reducible repeat (first|refine blk_drewN ?_ _|refine blk_drew ?_|refine blk_alloc ?_ _));exact BK153.out) hb)
   have n1_:=Aside0.mk (below_step (by repeat (first|(with_reducible first|exact HB.out|apply below_alloc|apply pw_below_drewN|apply below_drew1|refine below_set ?_ GE153.out)|exact HB.out)) hb)
   clear BK153
   clear HB
   have BK153:=n0_
   have HB:=n1_
   clear n0_ n1_
   (try clear hb)
   (try clear hb2)
   (try clear hk)
   (try clear hi)
   refine hK.out _ _ ⟨(blk_cell BK153.out 0).trans rfl,(blk_cell BK153.out 1).trans rfl,(blk_cell BK153.out 2).trans rfl⟩ (fun hHeld => ?_)
   clear hK K
   refine norm_ (a':=?_) ?_ ?_
   rotate_left
   ·show Act.put _ (some 4) _ = _
    simp only [Act.put,List.setIfInBounds_toArray,List.set_cons_zero,List.set_cons_succ,i64_w,i32_w]
    rfl
   refine pure_ (i:=2) (N:=some 5) (v:=?_) (a':=?_) target_dots_b3 rfl rfl (any_of HT_.out (by kernel_rfl)) (fun _ _ _ h => h) (Or.inl ⟨by rfl,?_⟩) ?_ ?_
   rotate_left
   ·intro w'
    go_simp
    with_reducible rfl
   rotate_left
   ·simp only [Act.put,List.setIfInBounds_toArray,List.set_cons_zero,List.set_cons_succ,i64_w,i32_w]
    rfl
   refine pure_ (i:=3) (N:=some 6) (v:=?_) (a':=?_) target_dots_b4 rfl rfl (any_of HT_.out (by kernel_rfl)) (fun _ _ _ h => h) (Or.inl ⟨by rfl,?_⟩) ?_ ?_
   rotate_left
   ·intro w'
    go_simp
    with_reducible rfl
   rotate_left
   ·simp only [Act.put,List.setIfInBounds_toArray,List.set_cons_zero,List.set_cons_succ,i64_w,i32_w]
    rfl
   refine pure_ (i:=5) (N:=some 8) (v:=?_) (a':=?_) target_dots_b5 rfl rfl (any_of HT_.out (by kernel_rfl)) (fun _ _ _ h => h) (Or.inl ⟨by rfl,?_⟩) ?_ ?_
   rotate_left
   ·intro w'
    go_simp
    with_reducible rfl
   rotate_left
   ·simp only [Act.put,List.setIfInBounds_toArray,List.set_cons_zero,List.set_cons_succ,i64_w,i32_w]
    rfl
   refine take_ (i:=4) (N:=some 7) (v:=?_) (a':=?_) target_dots_b6 rfl rfl (take_ofW HT_.out HW_.out (by kernel_rfl)) (fun _ _ _ h => h) (Or.inl ⟨by rfl,?_⟩) hHeld ?_ ?_
   rotate_left
   ·rintro w' ⟨s0,s1,s2⟩
    go_simp
    with_reducible rfl
   rotate_left
   ·simp only [Act.put,List.setIfInBounds_toArray,List.set_cons_zero,List.set_cons_succ,i64_w,i32_w]
    rfl
   refine take_ (i:=6) (N:=some 9) (v:=?_) (a':=?_) target_dots_b7 rfl rfl (take_ofW HT_.out HW_.out (by kernel_rfl)) (fun _ _ _ h => h) (Or.inl ⟨by rfl,?_⟩) hHeld ?_ ?_
   rotate_left
   ·rintro w' ⟨s0,s1,s2⟩
    go_simp
    with_reducible rfl
   rotate_left
   ·simp only [Act.put,List.setIfInBounds_toArray,List.set_cons_zero,List.set_cons_succ,i64_w,i32_w]
    rfl
   refine one_ (i:=7) (N:=some 10) target_dots_b8 rfl rfl (one_of HT_.out (by kernel_rfl)) (by decide) (fun K hK => ?_)
   refine goes_ Tryd.func27 (by kernel_rfl) rfl #[.string a0_0] (by rfl) rfl rfl (by (try simp only [List.map_toArray,List.map_cons,List.map_nil]);first|done|rfl|(simp only [List.length_drop,List.length_take];rfl)) ?_
   with_reducible refine (origin_Default.calls a0_0 t155 _ A4.out).mono ?_
   rintro e w' ⟨rfl,⟨nd,rfl⟩⟩
   refine ⟨_,rfl,?_⟩
   refine hK.out _ _ ⟨(blk_cell BK153.out 0).trans rfl,(blk_cell BK153.out 1).trans rfl,(blk_cell BK153.out 2).trans rfl⟩ (fun hHeld => ?_)
   clear hK K
   refine norm_ (a':=?_) ?_ ?_
   rotate_left
   ·show Act.put _ (some 10) _ = _
    simp only [Act.put,List.setIfInBounds_toArray,List.set_cons_zero,List.set_cons_succ,i64_w,i32_w]
    rfl
   refine pure_ (i:=8) (N:=some 11) (v:=?_) (a':=?_) target_dots_b9 rfl rfl (any_of HT_.out (by kernel_rfl)) (fun _ _ _ h => h) (Or.inl ⟨by rfl,?_⟩) ?_ ?_
   rotate_left
   ·intro w'
    go_simp
    with_reducible rfl
   rotate_left
   ·simp only [Act.put,List.setIfInBounds_toArray,List.set_cons_zero,List.set_cons_succ,i64_w,i32_w]
    rfl
   refine pure_ (i:=9) (N:=some 12) (v:=?_) (a':=?_) target_dots_b10 rfl rfl (any_of HT_.out (by kernel_rfl)) (fun _ _ _ h => h) (Or.inl ⟨by rfl,?_⟩) ?_ ?_
   rotate_left
   ·intro w'
    go_simp
    with_reducible rfl
   rotate_left
   ·simp only [Act.put,List.setIfInBounds_toArray,List.set_cons_zero,List.set_cons_succ,i64_w,i32_w]
    rfl
   refine done_ (done_of HT_.out (by kernel_rfl)) ?_
   have hcz16_0 : w15.cell? ⟨gb153,0,none⟩ = some (.string a0_0):=(blk_cell BK153.out 0).trans rfl
   have hcz16_1 : w15.cell? ⟨gb153,1,none⟩ = some (.string a0_1):=(blk_cell BK153.out 1).trans rfl
   have hcz16_2 : w15.cell? ⟨gb153,2,none⟩ = some (.int .i64 a0_2):=(blk_cell BK153.out 2).trans rfl
   have hfz16_0:=blk_frozen BK153.out 0
   have hfz16_1:=blk_frozen BK153.out 1
   have hfz16_2:=blk_frozen BK153.out 2
   try go_wp2_with (first|((with_reducible refine gate_callee (f:=25) rfl ?_);refine goesL_ (some 20) rfl rfl Tryd.func25 (by kernel_rfl) rfl #[.agg #[.string a0_0,.string a0_1,.int .i64 a0_2]] rfl (by (try simp only [List.map_toArray,List.map_cons,List.map_nil]);first|done|rfl|(simp only [List.length_drop,List.length_take];rfl)) ?_;(with_reducible refine (origin_Key.calls k a0_0 a0_1 a0_2 t156 _ ?side1 A12.out).mono ?_);(case side1 => exact ⟨by repeat (first|(with_reducible exact hM_.out)|(with_reducible exact LaidW.below hM_.out HB.out)|(with_reducible refine LaidW.alloc ?_ _)|(with_reducible refine LaidW.drewN ?_ _)|(with_reducible refine LaidW.drew ?_)|exact LaidW.below hM_.out (by repeat (first|(with_reducible first|exact HB.out|apply below_alloc|apply pw_below_drewN|apply below_drew1|refine below_set ?_ GE153.out)|exact HB.out)))⟩);rintro e w17 ⟨rfl,hb⟩;refine ⟨_,rfl,?_⟩;have n0_:=Aside0.mk (blk_below (g:=gb153) (o:=.cells #[.string a0_0,.string a0_1,.int .i64 a0_2] 23 (0,0)) (by (with_reducible repeat (first|refine blk_drewN ?_ _|refine blk_drew ?_|refine blk_alloc ?_ _));exact BK153.out) hb);have n1_:=Aside0.mk (below_step (by repeat (first|(with_reducible first|exact HB.out|apply below_alloc|apply pw_below_drewN|apply below_drew1|refine below_set ?_ GE153.out)|exact HB.out)) hb);clear BK153;clear HB;have BK153:=n0_;have HB:=n1_;clear n0_ n1_;(try clear hb);(try clear hb2);(try clear hk);(try clear hi)))
   go_ret
   exact ⟨by first|rfl|(simp [errW_none,errW_some] <;> rfl)|(simp [*,errW_none,errW_some] <;> rfl),by repeat (first|(with_reducible first|exact HB.out|apply below_alloc|apply pw_below_drewN|apply below_drew1|refine below_set ?_ GE153.out)|exact HB.out)⟩
 ·replace c3:=Bool.eq_false_iff.mpr c3
  subst c3
  have H1 : ((origin_Key.f k a0_0 a0_1 a0_2).bind fun t157 => (some t157)) = some r:=by rw [if_neg (show ¬ (false = true) by decide)] at H;exact H
  clear H
  have H:=H1
  clear H1
  replace H:=Option.bind_eq_some_iff.mp H
  obtain ⟨t157,A180,H⟩:=H
  replace H : (some t157) = some r:=H
  have A18:=Aside0.mk A180
  clear A180
  obtain rfl:=Option.some.inj H
  go_enter Tryd.func23,Tryd.ntmps23
  try go_wp2_with (first|((with_reducible refine gate_dst (N:=1) rfl ?_);refine box_event ?hg (N:=1) ?hd (cs:=#[.string a0_0,.string a0_1,.int .i64 a0_2]) (t:=23) ?hr ?_;(case hd => rfl);(case hg => rfl);(case hr => first|(go_simp;done)|(go_simp;rfl));intro gb153 hg w19 hbox hb;have n0_:=Aside0.mk (below_step (by repeat (first|(with_reducible first|exact HB.out|apply below_alloc|apply pw_below_drewN|apply below_drew1)|exact HB.out)) hb);have n1_:=Aside0.mk (hbox);have n2_:=Aside0.mk ((by rw [hg];exact (below_size (by repeat (first|(with_reducible first|exact HB.out|apply below_alloc|apply pw_below_drewN|apply below_drew1)|exact HB.out))) : w.heap.size ≤ gb153));have n3_:=Aside0.mk ((by rw [hg];exact (below_size (by repeat (first|(with_reducible first|exact HB.out|apply below_alloc|apply pw_below_drewN|apply below_drew1)|exact HB.out))) : w.heap.size ≤ gb153));clear HB;have HB:=n0_;have BK153:=n1_;have GW153:=n2_;have GE153:=n3_;clear n0_ n1_ n2_ n3_;clear hb hbox hg))
  have n0_:=Aside0.mk (blk_drew BK153.out)
  have n1_:=Aside0.mk (below_drew1 HB.out)
  clear BK153
  clear HB
  have BK153:=n0_
  have HB:=n1_
  clear n0_ n1_
  refine start_ (n:=10) (S:=fun w' => w'.cell? ⟨gb153,0,none⟩ = some (.string a0_0) ∧ w'.cell? ⟨gb153,1,none⟩ = some (.string a0_1) ∧ w'.cell? ⟨gb153,2,none⟩ = some (.int .i64 a0_2)) (ds:=[]) target_dots_b0 (by kernel_rfl) rfl rfl ⟨(blk_cell BK153.out 0).trans rfl,(blk_cell BK153.out 1).trans rfl,(blk_cell BK153.out 2).trans rfl⟩ (fun hHeld => ?_);refine with_tabW origin_Show.tab1 origin_Show.bits1 (fun HT_ HW_ => ?_)
  generalize w19.drew = w20 at BK153 HB hHeld ⊢
  refine take_ (i:=0) (N:=some 3) (v:=?_) (a':=?_) target_dots_b1 rfl rfl (take_ofW HT_.out HW_.out (by kernel_rfl)) (fun _ _ _ h => h) (Or.inl ⟨by rfl,?_⟩) hHeld ?_ ?_
  rotate_left
  ·rintro w' ⟨s0,s1,s2⟩
   go_simp
   with_reducible rfl
  rotate_left
  ·simp only [Act.put,List.setIfInBounds_toArray,List.set_cons_zero,List.set_cons_succ,i64_w,i32_w]
   rfl
  refine one_ (i:=1) (N:=some 4) target_dots_b2 rfl rfl (one_of HT_.out (by kernel_rfl)) (by decide) (fun K hK => ?_)
  refine goes_ Tryd.func21 (by kernel_rfl) rfl #[.agg #[.string a0_0,.string a0_1,.int .i64 a0_2]] (by rfl) rfl rfl (by (try simp only [List.map_toArray,List.map_cons,List.map_nil]);first|done|rfl|(simp only [List.length_drop,List.length_take];rfl)) ?_
  with_reducible refine (origin_Check.calls k a0_0 a0_1 a0_2 false _ A2.out).mono ?_
  rintro e w21 ⟨rfl,hb⟩
  refine ⟨_,rfl,?_⟩
  have n0_:=Aside0.mk (blk_below (g:=gb153) (o:=.cells #[.string a0_0,.string a0_1,.int .i64 a0_2] 23 (0,0)) (by (with_reducible repeat (first|refine blk_drewN ?_ _|refine blk_drew ?_|refine blk_alloc ?_ _));exact BK153.out) hb)
  have n1_:=Aside0.mk (below_step (by repeat (first|(with_reducible first|exact HB.out|apply below_alloc|apply pw_below_drewN|apply below_drew1|refine below_set ?_ GE153.out)|exact HB.out)) hb)
  clear BK153
  clear HB
  have BK153:=n0_
  have HB:=n1_
  clear n0_ n1_
  (try clear hb)
  (try clear hb2)
  (try clear hk)
  (try clear hi)
  refine hK.out _ _ ⟨(blk_cell BK153.out 0).trans rfl,(blk_cell BK153.out 1).trans rfl,(blk_cell BK153.out 2).trans rfl⟩ (fun hHeld => ?_)
  clear hK K
  refine norm_ (a':=?_) ?_ ?_
  rotate_left
  ·show Act.put _ (some 4) _ = _
   simp only [Act.put,List.setIfInBounds_toArray,List.set_cons_zero,List.set_cons_succ,i64_w,i32_w]
   rfl
  refine pure_ (i:=2) (N:=some 5) (v:=?_) (a':=?_) target_dots_b3 rfl rfl (any_of HT_.out (by kernel_rfl)) (fun _ _ _ h => h) (Or.inl ⟨by rfl,?_⟩) ?_ ?_
  rotate_left
  ·intro w'
   go_simp
   with_reducible rfl
  rotate_left
  ·simp only [Act.put,List.setIfInBounds_toArray,List.set_cons_zero,List.set_cons_succ,i64_w,i32_w]
   rfl
  refine pure_ (i:=3) (N:=some 6) (v:=undef) (a':=?_) target_dots_b4 rfl rfl (any_of HT_.out (by kernel_rfl)) (fun _ _ _ h => h) (Or.inr ⟨by rfl,rfl⟩) ?_ ?_
  rotate_left
  ·simp only [Act.put,List.setIfInBounds_toArray,List.set_cons_zero,List.set_cons_succ,i64_w,i32_w]
   rfl
  refine pure_ (i:=4) (N:=some 7) (v:=undef) (a':=?_) #[true,true,true,true,true,false,false,false,false,false] rfl rfl (any_of HT_.out (by kernel_rfl)) (fun _ _ _ h => h) (Or.inr ⟨by rfl,rfl⟩) ?_ ?_
  rotate_left
  ·simp only [Act.put,List.setIfInBounds_toArray,List.set_cons_zero,List.set_cons_succ,i64_w,i32_w]
   rfl
  refine pure_ (i:=5) (N:=some 8) (v:=undef) (a':=?_) target_dots_b6 rfl rfl (any_of HT_.out (by kernel_rfl)) (fun _ _ _ h => h) (Or.inr ⟨by rfl,rfl⟩) ?_ ?_
  rotate_left
  ·simp only [Act.put,List.setIfInBounds_toArray,List.set_cons_zero,List.set_cons_succ,i64_w,i32_w]
   rfl
  refine pure_ (i:=6) (N:=some 9) (v:=undef) (a':=?_) target_dots_b7 rfl rfl (any_of HT_.out (by kernel_rfl)) (fun _ _ _ h => h) (Or.inr ⟨by rfl,rfl⟩) ?_ ?_
  rotate_left
  ·simp only [Act.put,List.setIfInBounds_toArray,List.set_cons_zero,List.set_cons_succ,i64_w,i32_w]
   rfl
  refine pure_ (i:=7) (N:=some 10) (v:=undef) (a':=?_) target_dots_b8 rfl rfl (any_of HT_.out (by kernel_rfl)) (fun _ _ _ h => h) (Or.inr ⟨by rfl,rfl⟩) ?_ ?_
  rotate_left
  ·simp only [Act.put,List.setIfInBounds_toArray,List.set_cons_zero,List.set_cons_succ,i64_w,i32_w]
   rfl
  refine pure_ (i:=8) (N:=some 11) (v:=undef) (a':=?_) target_dots_b9 rfl rfl (any_of HT_.out (by kernel_rfl)) (fun _ _ _ h => h) (Or.inr ⟨by rfl,rfl⟩) ?_ ?_
  rotate_left
  ·simp only [Act.put,List.setIfInBounds_toArray,List.set_cons_zero,List.set_cons_succ,i64_w,i32_w]
   rfl
  refine pure_ (i:=9) (N:=some 12) (v:=?_) (a':=?_) target_dots_b10 rfl rfl (any_of HT_.out (by kernel_rfl)) (fun _ _ _ h => h) (Or.inl ⟨by rfl,?_⟩) ?_ ?_
  rotate_left
  ·intro w'
   go_simp
   with_reducible rfl
  rotate_left
  ·simp only [Act.put,List.setIfInBounds_toArray,List.set_cons_zero,List.set_cons_succ,i64_w,i32_w]
   rfl
  refine done_ (done_of HT_.out (by kernel_rfl)) ?_
  have hcz22_0 : w21.cell? ⟨gb153,0,none⟩ = some (.string a0_0):=(blk_cell BK153.out 0).trans rfl
  have hcz22_1 : w21.cell? ⟨gb153,1,none⟩ = some (.string a0_1):=(blk_cell BK153.out 1).trans rfl
  have hcz22_2 : w21.cell? ⟨gb153,2,none⟩ = some (.int .i64 a0_2):=(blk_cell BK153.out 2).trans rfl
  have hfz22_0:=blk_frozen BK153.out 0
  have hfz22_1:=blk_frozen BK153.out 1
  have hfz22_2:=blk_frozen BK153.out 2
  try go_wp2_with (first|((with_reducible refine gate_callee (f:=25) rfl ?_);refine goesL_ (some 20) rfl rfl Tryd.func25 (by kernel_rfl) rfl #[.agg #[.string a0_0,.string a0_1,.int .i64 a0_2]] rfl (by (try simp only [List.map_toArray,List.map_cons,List.map_nil]);first|done|rfl|(simp only [List.length_drop,List.length_take];rfl)) ?_;(with_reducible refine (origin_Key.calls k a0_0 a0_1 a0_2 t157 _ ?side1 A18.out).mono ?_);(case side1 => exact ⟨by repeat (first|(with_reducible exact hM_.out)|(with_reducible exact LaidW.below hM_.out HB.out)|(with_reducible refine LaidW.alloc ?_ _)|(with_reducible refine LaidW.drewN ?_ _)|(with_reducible refine LaidW.drew ?_)|exact LaidW.below hM_.out (by repeat (first|(with_reducible first|exact HB.out|apply below_alloc|apply pw_below_drewN|apply below_drew1|refine below_set ?_ GE153.out)|exact HB.out)))⟩);rintro e w23 ⟨rfl,hb⟩;refine ⟨_,rfl,?_⟩;have n0_:=Aside0.mk (blk_below (g:=gb153) (o:=.cells #[.string a0_0,.string a0_1,.int .i64 a0_2] 23 (0,0)) (by (with_reducible repeat (first|refine blk_drewN ?_ _|refine blk_drew ?_|refine blk_alloc ?_ _));exact BK153.out) hb);have n1_:=Aside0.mk (below_step (by repeat (first|(with_reducible first|exact HB.out|apply below_alloc|apply pw_below_drewN|apply below_drew1|refine below_set ?_ GE153.out)|exact HB.out)) hb);clear BK153;clear HB;have BK153:=n0_;have HB:=n1_;clear n0_ n1_;(try clear hb);(try clear hb2);(try clear hk);(try clear hi)))
  go_ret
  exact ⟨by first|rfl|(simp [errW_none,errW_some] <;> rfl)|(simp [*,errW_none,errW_some] <;> rfl),by repeat (first|(with_reducible first|exact HB.out|apply below_alloc|apply pw_below_drewN|apply below_drew1|refine below_set ?_ GE153.out)|exact HB.out)⟩

/-! ### target_show: function 54 -/
def target_show.f (k : Nat) (a0_0 : ByteArray) (a0_1 : ByteArray) (a0_2 : Int) (a0_3 : ByteArray) (a0_4 : ByteArray) : Option (ByteArray):=(origin_Show.f k a0_0 a0_1 a0_2).bind fun t159 => (if t159.size + a0_3.size ≤ 9223372036854775807 then (if (t159 ++ a0_3).size + a0_4.size ≤ 9223372036854775807 then (some ((t159 ++ a0_3) ++ a0_4)) else (none)) else (none))
theorem target_show.mono : ∀ a0 a1 a2 a3 a4 k,LeO (target_show.f k a0 a1 a2 a3 a4) (target_show.f (k + 1) a0 a1 a2 a3 a4):=by
 intro a0 a1 a2 a3 a4 k
 unfold target_show.f
 repeat' first
   | (with_reducible exact origin_Show.mono _ _ _ _)
   | (with_reducible exact LeO.refl _)
   | (with_reducible exact LeO.none _)
   | (with_reducible refine LeO.ite ?_ ?_)
   | (with_reducible refine LeO.bind ?_ (fun _ => ?_))
   | exact origin_Show.mono _ _ _ _
   | exact LeO.none _
   | refine LeO.ite ?_ ?_
   | refine LeO.bind ?_ (fun _ => ?_)
def target_show.T1 : Bool × List (List Nat × List Nat):=(true,[([],[]),([0],[0]),([1],[1]),([],[]),([3],[3]),([2,4],[2,4]),([],[]),([6],[6]),([5,7],[5,7]),([8,2,0,1,2,3,4,5,6,7,8],[8])])
def target_show.B1 : List Nat:=[0,1,3,0,8,31,0,64,255,511]
theorem target_show.tab1 : rtab .any (opsOf Tryd.f54 1) = target_show.T1:=by kernel_rfl
theorem target_show.bits1 : waitsOk target_show.T1.2 target_show.B1 = true:=by kernel_rfl
set_option maxHeartbeats 8000000 in
set_option maxRecDepth 100000 in
theorem target_show.calls (k : Nat) (a0_0 : ByteArray) (a0_1 : ByteArray) (a0_2 : Int) (a0_3 : ByteArray) (a0_4 : ByteArray) (r : ByteArray) (w : World) (hM_ : Aside0 (LaidW w)) (h : target_show.f k a0_0 a0_1 a0_2 a0_3 a0_4 = some r) :
  Calls Tryd.prog 54 #[.agg #[.string a0_0,.string a0_1,.int .i64 a0_2,.string a0_3,.string a0_4]] w fun e w' => e = .returned (.string r) ∧ Below w.heap.size w w':=by
 have hu44:=Tryd.underlying44
 have hu23:=Tryd.underlying23
 have HB:=Aside0.mk (Below.refl w.heap.size w)
 have H : ((origin_Show.f k a0_0 a0_1 a0_2).bind fun t159 => (if t159.size + a0_3.size ≤ 9223372036854775807 then (if (t159 ++ a0_3).size + a0_4.size ≤ 9223372036854775807 then (some ((t159 ++ a0_3) ++ a0_4)) else (none)) else (none))) = some r:=h
 clear h
 replace H:=Option.bind_eq_some_iff.mp H
 obtain ⟨t159,A20,H⟩:=H
 replace H : (if t159.size + a0_3.size ≤ 9223372036854775807 then (if (t159 ++ a0_3).size + a0_4.size ≤ 9223372036854775807 then (some ((t159 ++ a0_3) ++ a0_4)) else (none)) else (none)) = some r:=H
 have A2:=Aside0.mk A20
 clear A20
 by_cases c3 : t159.size + a0_3.size ≤ 9223372036854775807
 ·rw [if_pos c3] at H
  have c3b0:=eq_true c3
  have c3b1 : decide (t159.size + a0_3.size ≤ 9223372036854775807) = true:=decide_eq_true c3
  try have c3b2 : (9223372036854775807 < t159.size + a0_3.size) = False:=eq_false (Nat.not_lt.2 c3)
  by_cases c4 : (t159 ++ a0_3).size + a0_4.size ≤ 9223372036854775807
  ·rw [if_pos c4] at H
   try (have c4b5:=c4;simp only [ByteArray.size_append,Int.natCast_add] at c4b5)
   have c4b0:=eq_true c4
   have c4b1 : decide ((t159 ++ a0_3).size + a0_4.size ≤ 9223372036854775807) = true:=decide_eq_true c4
   try have c4b2 : (9223372036854775807 < (t159 ++ a0_3).size + a0_4.size) = False:=eq_false (Nat.not_lt.2 c4)
   try have c4b3 : (9223372036854775807 < t159.size + a0_3.size + a0_4.size) = False:=eq_false (Nat.not_lt.2 (by have z_:=c4;simp only [ByteArray.size_append] at z_;first|exact z_|simpa using z_))
   obtain rfl:=Option.some.inj H
   go_enter Tryd.func54,Tryd.ntmps54
   try go_wp2_with (first|((with_reducible refine gate_dst (N:=1) rfl ?_);refine box_event ?hg (N:=1) ?hd (cs:=#[.string a0_0,.string a0_1,.int .i64 a0_2,.string a0_3,.string a0_4]) (t:=44) ?hr ?_;(case hd => rfl);(case hg => rfl);(case hr => first|(go_simp;done)|(go_simp;rfl));intro gb158 hg w5 hbox hb;have n0_:=Aside0.mk (below_step (by repeat (first|(with_reducible first|exact HB.out|apply below_alloc|apply pw_below_drewN|apply below_drew1)|exact HB.out)) hb);have n1_:=Aside0.mk (hbox);have n2_:=Aside0.mk ((by rw [hg];exact (below_size (by repeat (first|(with_reducible first|exact HB.out|apply below_alloc|apply pw_below_drewN|apply below_drew1)|exact HB.out))) : w.heap.size ≤ gb158));have n3_:=Aside0.mk ((by rw [hg];exact (below_size (by repeat (first|(with_reducible first|exact HB.out|apply below_alloc|apply pw_below_drewN|apply below_drew1)|exact HB.out))) : w.heap.size ≤ gb158));clear HB;have HB:=n0_;have BK158:=n1_;have GW158:=n2_;have GE158:=n3_;clear n0_ n1_ n2_ n3_;clear hb hbox hg))
   have n0_:=Aside0.mk (blk_drew BK158.out)
   have n1_:=Aside0.mk (below_drew1 HB.out)
   clear BK158
   clear HB
   have BK158:=n0_
   have HB:=n1_
   clear n0_ n1_
   refine start_ (n:=10) (S:=fun w' => w'.cell? ⟨gb158,0,none⟩ = some (.string a0_0) ∧ w'.cell? ⟨gb158,1,none⟩ = some (.string a0_1) ∧ w'.cell? ⟨gb158,2,none⟩ = some (.int .i64 a0_2) ∧ w'.cell? ⟨gb158,3,none⟩ = some (.string a0_3) ∧ w'.cell? ⟨gb158,4,none⟩ = some (.string a0_4)) (ds:=[]) target_dots_b0 (by kernel_rfl) rfl rfl ⟨(blk_cell BK158.out 0).trans rfl,(blk_cell BK158.out 1).trans rfl,(blk_cell BK158.out 2).trans rfl,(blk_cell BK158.out 3).trans rfl,(blk_cell BK158.out 4).trans rfl⟩ (fun hHeld => ?_);refine with_tabW target_show.tab1 target_show.bits1 (fun HT_ HW_ => ?_)
   generalize w5.drew = w6 at BK158 HB hHeld ⊢
   refine pure_ (i:=0) (N:=some 3) (v:=?_) (a':=?_) target_dots_b1 rfl rfl (any_of HT_.out (by kernel_rfl)) (fun _ _ _ h => h) (Or.inl ⟨by rfl,?_⟩) ?_ ?_
   rotate_left
   ·intro w'
    go_simp
    with_reducible rfl
   rotate_left
   ·simp only [Act.put,List.setIfInBounds_toArray,List.set_cons_zero,List.set_cons_succ,i64_w,i32_w]
    rfl
   refine pure_ (i:=3) (N:=some 6) (v:=?_) (a':=?_) #[true,false,false,true,false,false,false,false,false,false] rfl rfl (any_of HT_.out (by kernel_rfl)) (fun _ _ _ h => h) (Or.inl ⟨by rfl,?_⟩) ?_ ?_
   rotate_left
   ·intro w'
    go_simp
    with_reducible rfl
   rotate_left
   ·simp only [Act.put,List.setIfInBounds_toArray,List.set_cons_zero,List.set_cons_succ,i64_w,i32_w]
    rfl
   refine pure_ (i:=6) (N:=some 9) (v:=?_) (a':=?_) #[true,false,false,true,false,false,true,false,false,false] rfl rfl (any_of HT_.out (by kernel_rfl)) (fun _ _ _ h => h) (Or.inl ⟨by rfl,?_⟩) ?_ ?_
   rotate_left
   ·intro w'
    go_simp
    with_reducible rfl
   rotate_left
   ·simp only [Act.put,List.setIfInBounds_toArray,List.set_cons_zero,List.set_cons_succ,i64_w,i32_w]
    rfl
   refine take_ (i:=1) (N:=some 4) (v:=?_) (a':=?_) #[true,true,false,true,false,false,true,false,false,false] rfl rfl (take_ofW HT_.out HW_.out (by kernel_rfl)) (fun _ _ _ h => h) (Or.inl ⟨by rfl,?_⟩) hHeld ?_ ?_
   rotate_left
   ·rintro w' ⟨s0,s1,s2,s3,s4⟩
    go_simp
    with_reducible rfl
   rotate_left
   ·simp only [Act.put,List.setIfInBounds_toArray,List.set_cons_zero,List.set_cons_succ,i64_w,i32_w]
    rfl
   refine take_ (i:=4) (N:=some 7) (v:=?_) (a':=?_) #[true,true,false,true,true,false,true,false,false,false] rfl rfl (take_ofW HT_.out HW_.out (by kernel_rfl)) (fun _ _ _ h => h) (Or.inl ⟨by rfl,?_⟩) hHeld ?_ ?_
   rotate_left
   ·rintro w' ⟨s0,s1,s2,s3,s4⟩
    go_simp
    with_reducible rfl
   rotate_left
   ·simp only [Act.put,List.setIfInBounds_toArray,List.set_cons_zero,List.set_cons_succ,i64_w,i32_w]
    rfl
   refine take_ (i:=7) (N:=some 10) (v:=?_) (a':=?_) #[true,true,false,true,true,false,true,true,false,false] rfl rfl (take_ofW HT_.out HW_.out (by kernel_rfl)) (fun _ _ _ h => h) (Or.inl ⟨by rfl,?_⟩) hHeld ?_ ?_
   rotate_left
   ·rintro w' ⟨s0,s1,s2,s3,s4⟩
    go_simp
    with_reducible rfl
   rotate_left
   ·simp only [Act.put,List.setIfInBounds_toArray,List.set_cons_zero,List.set_cons_succ,i64_w,i32_w]
    rfl
   refine one_ (i:=2) (N:=some 5) #[true,true,true,true,true,false,true,true,false,false] rfl rfl (one_of HT_.out (by kernel_rfl)) (by decide) (fun K hK => ?_)
   refine goes_ Tryd.func23 (by kernel_rfl) rfl #[.agg #[.string a0_0,.string a0_1,.int .i64 a0_2]] (by rfl) rfl rfl (by (try simp only [List.map_toArray,List.map_cons,List.map_nil]);first|done|rfl|(simp only [List.length_drop,List.length_take];rfl)) ?_
   with_reducible refine (origin_Show.calls k a0_0 a0_1 a0_2 t159 _ ?side1 A2.out).mono ?_
   (case side1 => exact ⟨by repeat (first|(with_reducible exact hM_.out)|(with_reducible exact LaidW.below hM_.out HB.out)|(with_reducible refine LaidW.alloc ?_ _)|(with_reducible refine LaidW.drewN ?_ _)|(with_reducible refine LaidW.drew ?_)|exact LaidW.below hM_.out (by repeat (first|(with_reducible first|exact HB.out|apply below_alloc|apply pw_below_drewN|apply below_drew1|refine below_set ?_ GE158.out)|exact HB.out)))⟩)
   rintro e w7 ⟨rfl,hb⟩
   refine ⟨_,rfl,?_⟩
   have n0_:=Aside0.mk (blk_below (g:=gb158) (o:=.cells #[.string a0_0,.string a0_1,.int .i64 a0_2,.string a0_3,.string a0_4] 44 (0,0)) (by (with_reducible repeat (first|refine blk_drewN ?_ _|refine blk_drew ?_|refine blk_alloc ?_ _));exact BK158.out) hb)
   have n1_:=Aside0.mk (below_step (by repeat (first|(with_reducible first|exact HB.out|apply below_alloc|apply pw_below_drewN|apply below_drew1|refine below_set ?_ GE158.out)|exact HB.out)) hb)
   clear BK158
   clear HB
   have BK158:=n0_
   have HB:=n1_
   clear n0_ n1_
   (try clear hb)
   (try clear hb2)
   (try clear hk)
   (try clear hi)
   refine hK.out _ _ ⟨(blk_cell BK158.out 0).trans rfl,(blk_cell BK158.out 1).trans rfl,(blk_cell BK158.out 2).trans rfl,(blk_cell BK158.out 3).trans rfl,(blk_cell BK158.out 4).trans rfl⟩ (fun hHeld => ?_)
   clear hK K
   refine norm_ (a':=?_) ?_ ?_
   rotate_left
   ·show Act.put _ (some 5) _ = _
    simp only [Act.put,List.setIfInBounds_toArray,List.set_cons_zero,List.set_cons_succ,i64_w,i32_w]
    rfl
   refine pure_ (i:=5) (N:=some 8) (v:=?_) (a':=?_) target_dots_b8 rfl rfl (any_of HT_.out (by kernel_rfl)) (fun _ _ _ h => h) (Or.inl ⟨by rfl,?_⟩) ?_ ?_
   rotate_left
   ·intro w'
    go_simp
    with_reducible rfl
   rotate_left
   ·simp only [Act.put,List.setIfInBounds_toArray,List.set_cons_zero,List.set_cons_succ,i64_w,i32_w]
    rfl
   refine pure_ (i:=8) (N:=some 11) (v:=?_) (a':=?_) target_dots_b9 rfl rfl (any_of HT_.out (by kernel_rfl)) (fun _ _ _ h => h) (Or.inl ⟨by rfl,?_⟩) ?_ ?_
   rotate_left
   ·intro w'
    go_simp
    with_reducible rfl
   rotate_left
   ·simp only [Act.put,List.setIfInBounds_toArray,List.set_cons_zero,List.set_cons_succ,i64_w,i32_w]
    rfl
   refine pure_ (i:=9) (N:=some 2) (v:=?_) (a':=?_) target_dots_b10 rfl rfl (any_of HT_.out (by kernel_rfl)) (fun _ _ _ h => h) (Or.inl ⟨by rfl,?_⟩) ?_ ?_
   rotate_left
   ·intro w'
    go_simp
    with_reducible rfl
   rotate_left
   ·simp only [Act.put,List.setIfInBounds_toArray,List.set_cons_zero,List.set_cons_succ,i64_w,i32_w]
    rfl
   refine done_ (done_of HT_.out (by kernel_rfl)) ?_
   try go_wp2
   go_ret
   exact ⟨by first|rfl|(simp [errW_none,errW_some] <;> rfl)|(simp [*,errW_none,errW_some] <;> rfl),by repeat (first|(with_reducible first|exact HB.out|apply below_alloc|apply pw_below_drewN|apply below_drew1|refine below_set ?_ GE158.out)|exact HB.out)⟩
  ·rw [if_neg c4] at H
   exact absurd H (by simp)
 ·rw [if_neg c3] at H
  exact absurd H (by simp)

end Go.Proofs.YtbfbidifodcedaaDoor.Pr
