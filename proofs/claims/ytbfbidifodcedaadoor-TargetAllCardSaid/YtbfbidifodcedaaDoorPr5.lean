-- Made by a program of this session (wip/xp/xp.py), over the print's words.
import Derived.Test.YtbfbidifodcedaaDoorPr0
import Derived.Test.YtbfbidifodcedaaDoorPr2
import Derived.Test.YtbfbidifodcedaaDoorPr3
import Derived.Test.YtbfbidifodcedaaDoorPr4
import Derived.Test.YtbfbidifodcedaaDoorG5
namespace Go.Proofs.YtbfbidifodcedaaDoor.Pr
open Go.RowKit Go.Proofs.YtbfbidifodcedaaDoorW.PrintWords Go.Proofs.YtbfbidifodcedaaDoorW.PrintLast Go.Proofs.YtbfbidifodcedaaDoorW.PrintMore
attribute [local go_sem] max2_int min2_int max_two min_two max_three min_three max_four min_four   -- for this text's walks alone
set_option linter.unusedVariables false
set_option linter.unusedSimpArgs false

abbrev strings_HasPrefix_b0 : Array Bool:=#[false,false,false,false,false,false,false,false,false,false,false,false,false,false,false,false,false]
abbrev strings_HasPrefix_b1 : Array Bool:=#[true,false,false,false,false,false,false,false,false,false,false,false,false,false,false,false,false]
abbrev strings_HasPrefix_b2 : Array Bool:=#[true,true,false,false,false,false,false,false,false,false,false,false,false,false,false,false,false]
abbrev strings_HasPrefix_b3 : Array Bool:=#[true,true,true,false,false,false,false,false,false,false,false,false,false,false,false,false,false]
abbrev strings_HasPrefix_b4 : Array Bool:=#[true,true,true,true,false,false,false,false,false,false,false,false,false,false,false,false,false]
abbrev strings_HasPrefix_b5 : Array Bool:=#[true,true,true,true,true,false,false,false,false,false,false,false,false,false,false,false,false]
abbrev strings_HasPrefix_b6 : Array Bool:=#[true,true,true,true,true,true,false,false,false,false,false,false,false,false,false,false,false]
abbrev strings_HasPrefix_b7 : Array Bool:=#[true,true,true,true,true,true,true,false,false,false,false,false,false,false,false,false,false]
abbrev strings_HasPrefix_b8 : Array Bool:=#[true,true,true,true,true,true,true,true,false,false,false,false,false,false,false,false,false]
abbrev strings_HasPrefix_b9 : Array Bool:=#[true,true,true,true,true,true,true,true,true,false,false,false,false,false,false,false,false]
abbrev strings_HasPrefix_b10 : Array Bool:=#[true,true,true,true,true,true,true,true,true,true,false,false,false,false,false,false,false]
abbrev strings_HasPrefix_b11 : Array Bool:=#[true,true,true,true,true,true,true,true,true,true,true,true,true,true,false,false,false]
abbrev strings_HasPrefix_b12 : Array Bool:=#[true,true,true,true,true,true,true,true,true,true,true,true,true,true,true,false,false]
abbrev strings_HasPrefix_b13 : Array Bool:=#[true,true,true,true,true,true,true,true,true,true,true,true,true,true,true,true,false]
abbrev strings_HasPrefix_b14 : Array Bool:=#[true,true,true,true,true,true,true,true,true,true,true,true,true,true,true,true,true]
abbrev strings_HasPrefix_b15 : Array Bool:=#[true,true,true,true,true,true,true,true,true,true,true,false,false,false,false,false,false]
abbrev strings_HasPrefix_b16 : Array Bool:=#[true,true,true,true,true,true,true,true,true,true,true,true,false,false,false,false,false]
abbrev strings_HasPrefix_b17 : Array Bool:=#[true,true,true,true,true,true,true,true,true,true,true,true,true,false,false,false,false]
/-! ### strings_HasPrefix: function 63 -/
def strings_HasPrefix.f (a0 : ByteArray) (a1 : ByteArray) : Option (Bool):=(stringslite_HasPrefix.f a0 a1).bind fun t182 => (some t182)
set_option maxHeartbeats 8000000 in
set_option maxRecDepth 100000 in
theorem strings_HasPrefix.calls (a0 : ByteArray) (a1 : ByteArray) (r : Bool) (w : World) (h : strings_HasPrefix.f a0 a1 = some r) :
  Calls Tryd.prog 63 #[.string a0,.string a1] w fun e w' => e = .returned (.bool r) ∧ Drawn0 w w':=by
 have H : ((stringslite_HasPrefix.f a0 a1).bind fun t182 => (some t182)) = some r:=h
 clear h
 replace H:=Option.bind_eq_some_iff.mp H
 obtain ⟨t182,A30,H⟩:=H
 replace H : (some t182) = some r:=H
 have A3:=Aside0.mk A30
 clear A30
 obtain rfl:=Option.some.inj H
 go_enter Tryd.func63,Tryd.ntmps63
 go_wp2_with (first|((with_reducible refine gate_callee (f:=81) rfl ?_);refine goesL_ (some 7) rfl rfl Tryd.func81 (by kernel_rfl) rfl #[.string a0,.string a1] rfl (by (try simp only [List.map_toArray,List.map_cons,List.map_nil]);first|done|rfl|(simp only [List.length_drop,List.length_take];rfl)) ?_;(with_reducible refine (stringslite_HasPrefix.calls a0 a1 t182 _ A3.out).mono ?_);rintro e w' ⟨rfl,⟨nd,rfl⟩⟩;refine ⟨_,rfl,?_⟩))
 go_ret
 exact ⟨by first|rfl|(simp;done)|(simp [*];done),by repeat (first|exact Drawn0.refl _|apply Drawn0.step)⟩

/-! ### target_Check: function 38 -/
def target_Check.j0 : Nat → Bool → ByteArray → ByteArray → Int → ByteArray → ByteArray → Option (Bool)
 | 0,_,_,_,_,_,_ => none
 | k + 1,x3,x184000,x184001,x184002,x184003,x184004 => if x184004.toList = ([] : List UInt8) then ((origin_Check.f k x184000 x184001 x184002).bind fun t187 => (if t187 = true then (if x3 = true then ((target_show.f k x184000 x184001 x184002 x184003 x184004).bind fun t188 => (some (decide ((t188.size : Int) ≤ 512)))) else (some false)) else (some false))) else ((strings_HasPrefix.f x184004 (⟨#[63]⟩ : ByteArray)).bind fun t189 => (if t189 = true then ((target_all.f k x184004 (⟨#[34,35,60,62]⟩ : ByteArray)).bind fun t190 => ((origin_Check.f k x184000 x184001 x184002).bind fun t191 => (if t191 = true then (if x3 = true then (if t190 = true then ((target_show.f k x184000 x184001 x184002 x184003 x184004).bind fun t192 => (some (decide ((t192.size : Int) ≤ 512)))) else (some false)) else (some false)) else (some false)))) else ((origin_Check.f k x184000 x184001 x184002).bind fun t193 => (if t193 = true then (if x3 = true then (some false) else (some false)) else (some false)))))
def target_Check.f (k : Nat) (a0_0 : ByteArray) (a0_1 : ByteArray) (a0_2 : Int) (a0_3 : ByteArray) (a0_4 : ByteArray) : Option (Bool):=(strings_HasPrefix.f a0_3 (⟨#[47]⟩ : ByteArray)).bind fun t184 => (if t184 = true then ((target_all.f k a0_3 (⟨#[34,35,60,62,63,92,94,123,124,125,96]⟩ : ByteArray)).bind fun t185 => (if t185 = true then ((target_Clean.f k a0_3).bind fun t186 => (target_Check.j0 k (t186.toList == a0_3.toList) a0_0 a0_1 a0_2 a0_3 a0_4)) else (target_Check.j0 k false a0_0 a0_1 a0_2 a0_3 a0_4))) else (target_Check.j0 k false a0_0 a0_1 a0_2 a0_3 a0_4))
theorem target_Check.mono_l : ∀ k,(∀ y0 y1 y2 y3 y4 y5,LeO (target_Check.j0 k y0 y1 y2 y3 y4 y5) (target_Check.j0 (k + 1) y0 y1 y2 y3 y4 y5))
 | 0 => fun _ _ _ _ _ _ r h => by simp [target_Check.j0] at h
 | k + 1 => by
  have ih0:=target_Check.mono_l k
  ·intro y0 y1 y2 y3 y4 y5
   unfold target_Check.j0
   repeat' first
   | (with_reducible exact ih0 _ _ _ _ _ _)
   | (with_reducible exact origin_Check.mono _ _ _ _)
   | (with_reducible exact target_Clean.mono _ _)
   | (with_reducible exact target_all.mono _ _ _)
   | (with_reducible exact target_show.mono _ _ _ _ _ _)
   | (with_reducible exact LeO.refl _)
   | (with_reducible exact LeO.none _)
   | (with_reducible refine LeO.ite ?_ ?_)
   | (with_reducible refine LeO.bind ?_ (fun _ => ?_))
   | exact ih0 _ _ _ _ _ _
   | exact origin_Check.mono _ _ _ _
   | exact target_Clean.mono _ _
   | exact target_all.mono _ _ _
   | exact target_show.mono _ _ _ _ _ _
   | exact LeO.none _
   | refine LeO.ite ?_ ?_
   | refine LeO.bind ?_ (fun _ => ?_)
theorem target_Check.mono : ∀ a0 a1 a2 a3 a4 k,LeO (target_Check.f k a0 a1 a2 a3 a4) (target_Check.f (k + 1) a0 a1 a2 a3 a4):=by
 intro a0 a1 a2 a3 a4 k
 have ih0:=target_Check.mono_l k
 unfold target_Check.f
 repeat' first
   | (with_reducible exact ih0 _ _ _ _ _ _)
   | (with_reducible exact origin_Check.mono _ _ _ _)
   | (with_reducible exact target_Clean.mono _ _)
   | (with_reducible exact target_all.mono _ _ _)
   | (with_reducible exact target_show.mono _ _ _ _ _ _)
   | (with_reducible exact LeO.refl _)
   | (with_reducible exact LeO.none _)
   | (with_reducible refine LeO.ite ?_ ?_)
   | (with_reducible refine LeO.bind ?_ (fun _ => ?_))
   | exact ih0 _ _ _ _ _ _
   | exact origin_Check.mono _ _ _ _
   | exact target_Clean.mono _ _
   | exact target_all.mono _ _ _
   | exact target_show.mono _ _ _ _ _ _
   | exact LeO.none _
   | refine LeO.ite ?_ ?_
   | refine LeO.bind ?_ (fun _ => ?_)
def target_Check.T1 : Bool × List (List Nat × List Nat):=(true,[([],[]),([0],[0]),([1],[1]),([2,2],[2]),([3],[3]),([4,3],[3,4]),([5,3,3],[3,5]),([3,6],[3,6]),([7,6],[7]),([8],[8]),([9,8],[8,9]),([10,8,8],[8,10]),([8],[8]),([12,8],[8,12]),([11,13,8],[8,11,13]),([8,14],[8,14]),([15,11,0,1,2,3,4,5,6,7,8,9,10,11,12,13,14,15],[15])])
def target_Check.B1 : List Nat:=[0,1,3,7,15,31,63,127,255,511,1023,2047,511,4607,16383,32767,65535]
theorem target_Check.tab1 : rtab .any (opsOf Tryd.f38 1) = target_Check.T1:=by kernel_rfl
theorem target_Check.bits1 : waitsOk target_Check.T1.2 target_Check.B1 = true:=by kernel_rfl
set_option maxHeartbeats 8000000 in
set_option maxRecDepth 100000 in
theorem target_Check.calls (k : Nat) (a0_0 : ByteArray) (a0_1 : ByteArray) (a0_2 : Int) (a0_3 : ByteArray) (a0_4 : ByteArray) (r : Bool) (w : World) (hM_ : Aside0 (LaidW w)) (h : target_Check.f k a0_0 a0_1 a0_2 a0_3 a0_4 = some r) :
  Calls Tryd.prog 38 #[.agg #[.string a0_0,.string a0_1,.int .i64 a0_2,.string a0_3,.string a0_4]] w fun e w' => e = .returned (.bool r) ∧ Below w.heap.size w w':=by
 have hu44:=Tryd.underlying44
 have hu23:=Tryd.underlying23
 have HB:=Aside0.mk (Below.refl w.heap.size w)
 have H : ((strings_HasPrefix.f a0_3 (⟨#[47]⟩ : ByteArray)).bind fun t184 => (if t184 = true then ((target_all.f k a0_3 (⟨#[34,35,60,62,63,92,94,123,124,125,96]⟩ : ByteArray)).bind fun t185 => (if t185 = true then ((target_Clean.f k a0_3).bind fun t186 => (target_Check.j0 k (t186.toList == a0_3.toList) a0_0 a0_1 a0_2 a0_3 a0_4)) else (target_Check.j0 k false a0_0 a0_1 a0_2 a0_3 a0_4))) else (target_Check.j0 k false a0_0 a0_1 a0_2 a0_3 a0_4))) = some r:=h
 clear h
 have HC2:=Aside0.mk H
 clear H
 go_enter Tryd.func38,Tryd.ntmps38
 go_upto_region 1 with (first|((with_reducible refine gate_dst (N:=1) rfl ?_);(try (refine gate_guard (by rfl) ?_;dsimp only));refine box_event ?hg (N:=1) ?hd (cs:=#[.string a0_0,.string a0_1,.int .i64 a0_2,.string a0_3,.string a0_4]) (t:=44) ?hr ?_;(case hd => rfl);(case hg => rfl);(case hr => first|(go_simp;done)|(go_simp;rfl));intro gb183 hg w3 hbox hb;have n0_:=Aside0.mk (below_step (by repeat (first|(with_reducible first|exact HB.out|apply below_alloc|apply pw_below_drewN|apply below_drew1)|exact HB.out)) hb);have n1_:=Aside0.mk (hbox);have n2_:=Aside0.mk ((by rw [hg];exact (below_size (by repeat (first|(with_reducible first|exact HB.out|apply below_alloc|apply pw_below_drewN|apply below_drew1)|exact HB.out))) : w.heap.size ≤ gb183));have n3_:=Aside0.mk ((by rw [hg];exact (below_size (by repeat (first|(with_reducible first|exact HB.out|apply below_alloc|apply pw_below_drewN|apply below_drew1)|exact HB.out))) : w.heap.size ≤ gb183));clear HB;have HB:=n0_;have BK183:=n1_;have GW183:=n2_;have GE183:=n3_;clear n0_ n1_ n2_ n3_;clear hb hbox hg))
 (try simp only [Act.put,List.setIfInBounds_toArray,List.set_cons_zero,List.set_cons_succ])
 go_cut [3] (fun v3 wc => ∃ (kq : Nat) (x3_1 : Bool),v3 = .bool x3_1 ∧ Aside0 (target_Check.j0 kq x3_1 a0_0 a0_1 a0_2 a0_3 a0_4 = some r) ∧ Aside0 (kq ≤ k) ∧ Aside0 (wc.heap[gb183]? = some (.cells #[.string a0_0,.string a0_1,.int .i64 a0_2,.string a0_3,.string a0_4] 44 (0,0))) ∧ Aside0 (Below w.heap.size w wc))
 case first =>
  have H:=HC2.out
  clear HC2
  replace H:=Option.bind_eq_some_iff.mp H
  obtain ⟨t184,A40,H⟩:=H
  replace H : (if t184 = true then ((target_all.f k a0_3 (⟨#[34,35,60,62,63,92,94,123,124,125,96]⟩ : ByteArray)).bind fun t185 => (if t185 = true then ((target_Clean.f k a0_3).bind fun t186 => (target_Check.j0 k (t186.toList == a0_3.toList) a0_0 a0_1 a0_2 a0_3 a0_4)) else (target_Check.j0 k false a0_0 a0_1 a0_2 a0_3 a0_4))) else (target_Check.j0 k false a0_0 a0_1 a0_2 a0_3 a0_4)) = some r:=H
  have A4:=Aside0.mk A40
  clear A40
  by_cases c5 : t184 = true
  ·subst c5
   have H1 : ((target_all.f k a0_3 (⟨#[34,35,60,62,63,92,94,123,124,125,96]⟩ : ByteArray)).bind fun t185 => (if t185 = true then ((target_Clean.f k a0_3).bind fun t186 => (target_Check.j0 k (t186.toList == a0_3.toList) a0_0 a0_1 a0_2 a0_3 a0_4)) else (target_Check.j0 k false a0_0 a0_1 a0_2 a0_3 a0_4))) = some r:=by rw [if_pos rfl] at H;exact H
   clear H
   have H:=H1
   clear H1
   replace H:=Option.bind_eq_some_iff.mp H
   obtain ⟨t185,A60,H⟩:=H
   replace H : (if t185 = true then ((target_Clean.f k a0_3).bind fun t186 => (target_Check.j0 k (t186.toList == a0_3.toList) a0_0 a0_1 a0_2 a0_3 a0_4)) else (target_Check.j0 k false a0_0 a0_1 a0_2 a0_3 a0_4)) = some r:=H
   have A6:=Aside0.mk A60
   clear A60
   by_cases c7 : t185 = true
   ·subst c7
    have H1 : ((target_Clean.f k a0_3).bind fun t186 => (target_Check.j0 k (t186.toList == a0_3.toList) a0_0 a0_1 a0_2 a0_3 a0_4)) = some r:=by rw [if_pos rfl] at H;exact H
    clear H
    have H:=H1
    clear H1
    replace H:=Option.bind_eq_some_iff.mp H
    obtain ⟨t186,A80,H⟩:=H
    replace H : (target_Check.j0 k (t186.toList == a0_3.toList) a0_0 a0_1 a0_2 a0_3 a0_4) = some r:=H
    have A8:=Aside0.mk A80
    clear A80
    have H':=Aside0.mk H
    clear H
    try go_wp2
    have n0_:=Aside0.mk (blk_drew BK183.out)
    have n1_:=Aside0.mk (below_drew1 HB.out)
    clear BK183
    clear HB
    have BK183:=n0_
    have HB:=n1_
    clear n0_ n1_
    refine start_ (n:=17) (S:=fun w' => w'.cell? ⟨gb183,0,none⟩ = some (.string a0_0) ∧ w'.cell? ⟨gb183,1,none⟩ = some (.string a0_1) ∧ w'.cell? ⟨gb183,2,none⟩ = some (.int .i64 a0_2) ∧ w'.cell? ⟨gb183,3,none⟩ = some (.string a0_3) ∧ w'.cell? ⟨gb183,4,none⟩ = some (.string a0_4)) (ds:=[]) strings_HasPrefix_b0 (by kernel_rfl) rfl rfl ⟨(blk_cell BK183.out 0).trans rfl,(blk_cell BK183.out 1).trans rfl,(blk_cell BK183.out 2).trans rfl,(blk_cell BK183.out 3).trans rfl,(blk_cell BK183.out 4).trans rfl⟩ (fun hHeld => ?_);refine with_tabW target_Check.tab1 target_Check.bits1 (fun HT_ HW_ => ?_)
    generalize w3.drew = w9 at BK183 HB hHeld ⊢
    refine pure_ (i:=0) (N:=some 5) (v:=?_) (a':=?_) strings_HasPrefix_b1 rfl rfl (any_of HT_.out (by kernel_rfl)) (fun _ _ _ h => h) (Or.inl ⟨by rfl,?_⟩) ?_ ?_
    rotate_left
    ·intro w'
     go_simp
     with_reducible rfl
    rotate_left
    ·simp only [Act.put,List.setIfInBounds_toArray,List.set_cons_zero,List.set_cons_succ,i64_w,i32_w]
     rfl
    refine take_ (i:=1) (N:=some 6) (v:=?_) (a':=?_) strings_HasPrefix_b2 rfl rfl (take_ofW HT_.out HW_.out (by kernel_rfl)) (fun _ _ _ h => h) (Or.inl ⟨by rfl,?_⟩) hHeld ?_ ?_
    rotate_left
    ·rintro w' ⟨s0,s1,s2,s3,s4⟩
     go_simp
     with_reducible rfl
    rotate_left
    ·simp only [Act.put,List.setIfInBounds_toArray,List.set_cons_zero,List.set_cons_succ,i64_w,i32_w]
     rfl
    refine one_ (i:=2) (N:=some 7) strings_HasPrefix_b3 rfl rfl (one_of HT_.out (by kernel_rfl)) (by decide) (fun K hK => ?_)
    refine goes_ Tryd.func63 (by kernel_rfl) rfl #[.string a0_3,.string (⟨#[47]⟩ : ByteArray)] (by rfl) rfl rfl (by (try simp only [List.map_toArray,List.map_cons,List.map_nil]);first|done|rfl|(simp only [List.length_drop,List.length_take];rfl)) ?_
    with_reducible refine (strings_HasPrefix.calls a0_3 (⟨#[47]⟩ : ByteArray) true _ A4.out).mono ?_
    rintro e w' ⟨rfl,⟨nd,rfl⟩⟩
    refine ⟨_,rfl,?_⟩
    refine hK.out _ _ ⟨(blk_cell BK183.out 0).trans rfl,(blk_cell BK183.out 1).trans rfl,(blk_cell BK183.out 2).trans rfl,(blk_cell BK183.out 3).trans rfl,(blk_cell BK183.out 4).trans rfl⟩ (fun hHeld => ?_)
    clear hK K
    refine norm_ (a':=?_) ?_ ?_
    rotate_left
    ·show Act.put _ (some 7) _ = _
     simp only [Act.put,List.setIfInBounds_toArray,List.set_cons_zero,List.set_cons_succ,i64_w,i32_w]
     rfl
    refine pure_ (i:=3) (N:=some 8) (v:=?_) (a':=?_) strings_HasPrefix_b4 rfl rfl (any_of HT_.out (by kernel_rfl)) (fun _ _ _ h => h) (Or.inl ⟨by rfl,?_⟩) ?_ ?_
    rotate_left
    ·intro w'
     go_simp
     with_reducible rfl
    rotate_left
    ·simp only [Act.put,List.setIfInBounds_toArray,List.set_cons_zero,List.set_cons_succ,i64_w,i32_w]
     rfl
    refine pure_ (i:=4) (N:=some 9) (v:=?_) (a':=?_) strings_HasPrefix_b5 rfl rfl (any_of HT_.out (by kernel_rfl)) (fun _ _ _ h => h) (Or.inl ⟨by rfl,?_⟩) ?_ ?_
    rotate_left
    ·intro w'
     go_simp
     with_reducible rfl
    rotate_left
    ·simp only [Act.put,List.setIfInBounds_toArray,List.set_cons_zero,List.set_cons_succ,i64_w,i32_w]
     rfl
    refine take_ (i:=5) (N:=some 10) (v:=?_) (a':=?_) strings_HasPrefix_b6 rfl rfl (take_ofW HT_.out HW_.out (by kernel_rfl)) (fun _ _ _ h => h) (Or.inl ⟨by rfl,?_⟩) hHeld ?_ ?_
    rotate_left
    ·rintro w' ⟨s0,s1,s2,s3,s4⟩
     go_simp
     with_reducible rfl
    rotate_left
    ·simp only [Act.put,List.setIfInBounds_toArray,List.set_cons_zero,List.set_cons_succ,i64_w,i32_w]
     rfl
    refine one_ (i:=6) (N:=some 11) strings_HasPrefix_b7 rfl rfl (one_of HT_.out (by kernel_rfl)) (by decide) (fun K hK => ?_)
    refine goes_ Tryd.func53 (by kernel_rfl) rfl #[.string a0_3,.string (⟨#[34,35,60,62,63,92,94,123,124,125,96]⟩ : ByteArray)] (by rfl) rfl rfl (by (try simp only [List.map_toArray,List.map_cons,List.map_nil]);first|done|rfl|(simp only [List.length_drop,List.length_take];rfl)) ?_
    with_reducible refine (target_all.calls k a0_3 (⟨#[34,35,60,62,63,92,94,123,124,125,96]⟩ : ByteArray) true _ A6.out).mono ?_
    rintro e w' ⟨rfl,⟨nd,rfl⟩⟩
    refine ⟨_,rfl,?_⟩
    refine hK.out _ _ ⟨(blk_cell BK183.out 0).trans rfl,(blk_cell BK183.out 1).trans rfl,(blk_cell BK183.out 2).trans rfl,(blk_cell BK183.out 3).trans rfl,(blk_cell BK183.out 4).trans rfl⟩ (fun hHeld => ?_)
    clear hK K
    refine norm_ (a':=?_) ?_ ?_
    rotate_left
    ·show Act.put _ (some 11) _ = _
     simp only [Act.put,List.setIfInBounds_toArray,List.set_cons_zero,List.set_cons_succ,i64_w,i32_w]
     rfl
    refine pure_ (i:=7) (N:=some 12) (v:=?_) (a':=?_) strings_HasPrefix_b8 rfl rfl (any_of HT_.out (by kernel_rfl)) (fun _ _ _ h => h) (Or.inl ⟨by rfl,?_⟩) ?_ ?_
    rotate_left
    ·intro w'
     go_simp
     with_reducible rfl
    rotate_left
    ·simp only [Act.put,List.setIfInBounds_toArray,List.set_cons_zero,List.set_cons_succ,i64_w,i32_w]
     rfl
    refine pure_ (i:=8) (N:=some 13) (v:=?_) (a':=?_) strings_HasPrefix_b9 rfl rfl (any_of HT_.out (by kernel_rfl)) (fun _ _ _ h => h) (Or.inl ⟨by rfl,?_⟩) ?_ ?_
    rotate_left
    ·intro w'
     go_simp
     with_reducible rfl
    rotate_left
    ·simp only [Act.put,List.setIfInBounds_toArray,List.set_cons_zero,List.set_cons_succ,i64_w,i32_w]
     rfl
    refine pure_ (i:=9) (N:=some 14) (v:=?_) (a':=?_) strings_HasPrefix_b10 rfl rfl (any_of HT_.out (by kernel_rfl)) (fun _ _ _ h => h) (Or.inl ⟨by rfl,?_⟩) ?_ ?_
    rotate_left
    ·intro w'
     go_simp
     with_reducible rfl
    rotate_left
    ·simp only [Act.put,List.setIfInBounds_toArray,List.set_cons_zero,List.set_cons_succ,i64_w,i32_w]
     rfl
    refine pure_ (i:=12) (N:=some 17) (v:=?_) (a':=?_) #[true,true,true,true,true,true,true,true,true,true,false,false,true,false,false,false,false] rfl rfl (any_of HT_.out (by kernel_rfl)) (fun _ _ _ h => h) (Or.inl ⟨by rfl,?_⟩) ?_ ?_
    rotate_left
    ·intro w'
     go_simp
     with_reducible rfl
    rotate_left
    ·simp only [Act.put,List.setIfInBounds_toArray,List.set_cons_zero,List.set_cons_succ,i64_w,i32_w]
     rfl
    refine take_ (i:=10) (N:=some 15) (v:=?_) (a':=?_) #[true,true,true,true,true,true,true,true,true,true,true,false,true,false,false,false,false] rfl rfl (take_ofW HT_.out HW_.out (by kernel_rfl)) (fun _ _ _ h => h) (Or.inl ⟨by rfl,?_⟩) hHeld ?_ ?_
    rotate_left
    ·rintro w' ⟨s0,s1,s2,s3,s4⟩
     go_simp
     with_reducible rfl
    rotate_left
    ·simp only [Act.put,List.setIfInBounds_toArray,List.set_cons_zero,List.set_cons_succ,i64_w,i32_w]
     rfl
    refine take_ (i:=13) (N:=some 18) (v:=?_) (a':=?_) #[true,true,true,true,true,true,true,true,true,true,true,false,true,true,false,false,false] rfl rfl (take_ofW HT_.out HW_.out (by kernel_rfl)) (fun _ _ _ h => h) (Or.inl ⟨by rfl,?_⟩) hHeld ?_ ?_
    rotate_left
    ·rintro w' ⟨s0,s1,s2,s3,s4⟩
     go_simp
     with_reducible rfl
    rotate_left
    ·simp only [Act.put,List.setIfInBounds_toArray,List.set_cons_zero,List.set_cons_succ,i64_w,i32_w]
     rfl
    refine one_ (i:=11) (N:=some 16) strings_HasPrefix_b11 rfl rfl (one_of HT_.out (by kernel_rfl)) (by decide) (fun K hK => ?_)
    refine goes_ Tryd.func36 (by kernel_rfl) rfl #[.string a0_3] (by rfl) rfl rfl (by (try simp only [List.map_toArray,List.map_cons,List.map_nil]);first|done|rfl|(simp only [List.length_drop,List.length_take];rfl)) ?_
    with_reducible refine (target_Clean.calls k a0_3 t186 _ A8.out).mono ?_
    rintro e w10 ⟨rfl,hb⟩
    refine ⟨_,rfl,?_⟩
    have n0_:=Aside0.mk (blk_below (g:=gb183) (o:=.cells #[.string a0_0,.string a0_1,.int .i64 a0_2,.string a0_3,.string a0_4] 44 (0,0)) (by (with_reducible repeat (first|refine blk_drewN ?_ _|refine blk_drew ?_|refine blk_alloc ?_ _));exact BK183.out) hb)
    have n1_:=Aside0.mk (below_step (by repeat (first|(with_reducible first|exact HB.out|apply below_alloc|apply pw_below_drewN|apply below_drew1|refine below_set ?_ GE183.out)|exact HB.out)) hb)
    clear BK183
    clear HB
    have BK183:=n0_
    have HB:=n1_
    clear n0_ n1_
    (try clear hb)
    (try clear hb2)
    (try clear hk)
    (try clear hi)
    refine hK.out _ _ ⟨(blk_cell BK183.out 0).trans rfl,(blk_cell BK183.out 1).trans rfl,(blk_cell BK183.out 2).trans rfl,(blk_cell BK183.out 3).trans rfl,(blk_cell BK183.out 4).trans rfl⟩ (fun hHeld => ?_)
    clear hK K
    refine norm_ (a':=?_) ?_ ?_
    rotate_left
    ·show Act.put _ (some 16) _ = _
     simp only [Act.put,List.setIfInBounds_toArray,List.set_cons_zero,List.set_cons_succ,i64_w,i32_w]
     rfl
    refine pure_ (i:=14) (N:=some 19) (v:=?_) (a':=?_) strings_HasPrefix_b12 rfl rfl (any_of HT_.out (by kernel_rfl)) (fun _ _ _ h => h) (Or.inl ⟨by rfl,?_⟩) ?_ ?_
    rotate_left
    ·intro w'
     go_simp
     with_reducible rfl
    rotate_left
    ·simp only [Act.put,List.setIfInBounds_toArray,List.set_cons_zero,List.set_cons_succ,i64_w,i32_w]
     rfl
    refine pure_ (i:=15) (N:=some 20) (v:=?_) (a':=?_) strings_HasPrefix_b13 rfl rfl (any_of HT_.out (by kernel_rfl)) (fun _ _ _ h => h) (Or.inl ⟨by rfl,?_⟩) ?_ ?_
    rotate_left
    ·intro w'
     go_simp
     with_reducible rfl
    rotate_left
    ·simp only [Act.put,List.setIfInBounds_toArray,List.set_cons_zero,List.set_cons_succ,i64_w,i32_w]
     rfl
    refine pure_ (i:=16) (N:=some 3) (v:=?_) (a':=?_) strings_HasPrefix_b14 rfl rfl (any_of HT_.out (by kernel_rfl)) (fun _ _ _ h => h) (Or.inl ⟨by rfl,?_⟩) ?_ ?_
    rotate_left
    ·intro w'
     go_simp
     with_reducible rfl
    rotate_left
    ·simp only [Act.put,List.setIfInBounds_toArray,List.set_cons_zero,List.set_cons_succ,i64_w,i32_w]
     rfl
    refine done_ (done_of HT_.out (by kernel_rfl)) ?_
    try go_wp2
    go_meet
    case rel => exact ⟨_,((t186.toList == a0_3.toList)),(by first|rfl|(simp;done)|(simp [*];done)),H',⟨by first|omega|exact Nat.le_refl _⟩,⟨by (with_reducible repeat (first|refine blk_drewN ?_ _|refine blk_drew ?_|refine blk_alloc ?_ _));exact BK183.out⟩,⟨by repeat (first|(with_reducible first|exact HB.out|apply below_alloc|apply pw_below_drewN|apply below_drew1|refine below_set ?_ GE183.out)|exact HB.out)⟩⟩
   ·replace c7:=Bool.eq_false_iff.mpr c7
    subst c7
    have H1 : (target_Check.j0 k false a0_0 a0_1 a0_2 a0_3 a0_4) = some r:=by rw [if_neg (show ¬ (false = true) by decide)] at H;exact H
    clear H
    have H:=H1
    clear H1
    have H':=Aside0.mk H
    clear H
    try go_wp2
    have n0_:=Aside0.mk (blk_drew BK183.out)
    have n1_:=Aside0.mk (below_drew1 HB.out)
    clear BK183
    clear HB
    have BK183:=n0_
    have HB:=n1_
    clear n0_ n1_
    refine start_ (n:=17) (S:=fun w' => w'.cell? ⟨gb183,0,none⟩ = some (.string a0_0) ∧ w'.cell? ⟨gb183,1,none⟩ = some (.string a0_1) ∧ w'.cell? ⟨gb183,2,none⟩ = some (.int .i64 a0_2) ∧ w'.cell? ⟨gb183,3,none⟩ = some (.string a0_3) ∧ w'.cell? ⟨gb183,4,none⟩ = some (.string a0_4)) (ds:=[]) strings_HasPrefix_b0 (by kernel_rfl) rfl rfl ⟨(blk_cell BK183.out 0).trans rfl,(blk_cell BK183.out 1).trans rfl,(blk_cell BK183.out 2).trans rfl,(blk_cell BK183.out 3).trans rfl,(blk_cell BK183.out 4).trans rfl⟩ (fun hHeld => ?_);refine with_tabW target_Check.tab1 target_Check.bits1 (fun HT_ HW_ => ?_)
    generalize w3.drew = w11 at BK183 HB hHeld ⊢
    refine pure_ (i:=0) (N:=some 5) (v:=?_) (a':=?_) strings_HasPrefix_b1 rfl rfl (any_of HT_.out (by kernel_rfl)) (fun _ _ _ h => h) (Or.inl ⟨by rfl,?_⟩) ?_ ?_
    rotate_left
    ·intro w'
     go_simp
     with_reducible rfl
    rotate_left
    ·simp only [Act.put,List.setIfInBounds_toArray,List.set_cons_zero,List.set_cons_succ,i64_w,i32_w]
     rfl
    refine take_ (i:=1) (N:=some 6) (v:=?_) (a':=?_) strings_HasPrefix_b2 rfl rfl (take_ofW HT_.out HW_.out (by kernel_rfl)) (fun _ _ _ h => h) (Or.inl ⟨by rfl,?_⟩) hHeld ?_ ?_
    rotate_left
    ·rintro w' ⟨s0,s1,s2,s3,s4⟩
     go_simp
     with_reducible rfl
    rotate_left
    ·simp only [Act.put,List.setIfInBounds_toArray,List.set_cons_zero,List.set_cons_succ,i64_w,i32_w]
     rfl
    refine one_ (i:=2) (N:=some 7) strings_HasPrefix_b3 rfl rfl (one_of HT_.out (by kernel_rfl)) (by decide) (fun K hK => ?_)
    refine goes_ Tryd.func63 (by kernel_rfl) rfl #[.string a0_3,.string (⟨#[47]⟩ : ByteArray)] (by rfl) rfl rfl (by (try simp only [List.map_toArray,List.map_cons,List.map_nil]);first|done|rfl|(simp only [List.length_drop,List.length_take];rfl)) ?_
    with_reducible refine (strings_HasPrefix.calls a0_3 (⟨#[47]⟩ : ByteArray) true _ A4.out).mono ?_
    rintro e w' ⟨rfl,⟨nd,rfl⟩⟩
    refine ⟨_,rfl,?_⟩
    refine hK.out _ _ ⟨(blk_cell BK183.out 0).trans rfl,(blk_cell BK183.out 1).trans rfl,(blk_cell BK183.out 2).trans rfl,(blk_cell BK183.out 3).trans rfl,(blk_cell BK183.out 4).trans rfl⟩ (fun hHeld => ?_)
    clear hK K
    refine norm_ (a':=?_) ?_ ?_
    rotate_left
    ·show Act.put _ (some 7) _ = _
     simp only [Act.put,List.setIfInBounds_toArray,List.set_cons_zero,List.set_cons_succ,i64_w,i32_w]
     rfl
    refine pure_ (i:=3) (N:=some 8) (v:=?_) (a':=?_) strings_HasPrefix_b4 rfl rfl (any_of HT_.out (by kernel_rfl)) (fun _ _ _ h => h) (Or.inl ⟨by rfl,?_⟩) ?_ ?_
    rotate_left
    ·intro w'
     go_simp
     with_reducible rfl
    rotate_left
    ·simp only [Act.put,List.setIfInBounds_toArray,List.set_cons_zero,List.set_cons_succ,i64_w,i32_w]
     rfl
    refine pure_ (i:=4) (N:=some 9) (v:=?_) (a':=?_) strings_HasPrefix_b5 rfl rfl (any_of HT_.out (by kernel_rfl)) (fun _ _ _ h => h) (Or.inl ⟨by rfl,?_⟩) ?_ ?_
    rotate_left
    ·intro w'
     go_simp
     with_reducible rfl
    rotate_left
    ·simp only [Act.put,List.setIfInBounds_toArray,List.set_cons_zero,List.set_cons_succ,i64_w,i32_w]
     rfl
    refine take_ (i:=5) (N:=some 10) (v:=?_) (a':=?_) strings_HasPrefix_b6 rfl rfl (take_ofW HT_.out HW_.out (by kernel_rfl)) (fun _ _ _ h => h) (Or.inl ⟨by rfl,?_⟩) hHeld ?_ ?_
    rotate_left
    ·rintro w' ⟨s0,s1,s2,s3,s4⟩
     go_simp
     with_reducible rfl
    rotate_left
    ·simp only [Act.put,List.setIfInBounds_toArray,List.set_cons_zero,List.set_cons_succ,i64_w,i32_w]
     rfl
    refine one_ (i:=6) (N:=some 11) strings_HasPrefix_b7 rfl rfl (one_of HT_.out (by kernel_rfl)) (by decide) (fun K hK => ?_)
    refine goes_ Tryd.func53 (by kernel_rfl) rfl #[.string a0_3,.string (⟨#[34,35,60,62,63,92,94,123,124,125,96]⟩ : ByteArray)] (by rfl) rfl rfl (by (try simp only [List.map_toArray,List.map_cons,List.map_nil]);first|done|rfl|(simp only [List.length_drop,List.length_take];rfl)) ?_
    with_reducible refine (target_all.calls k a0_3 (⟨#[34,35,60,62,63,92,94,123,124,125,96]⟩ : ByteArray) false _ A6.out).mono ?_
    rintro e w' ⟨rfl,⟨nd,rfl⟩⟩
    refine ⟨_,rfl,?_⟩
    refine hK.out _ _ ⟨(blk_cell BK183.out 0).trans rfl,(blk_cell BK183.out 1).trans rfl,(blk_cell BK183.out 2).trans rfl,(blk_cell BK183.out 3).trans rfl,(blk_cell BK183.out 4).trans rfl⟩ (fun hHeld => ?_)
    clear hK K
    refine norm_ (a':=?_) ?_ ?_
    rotate_left
    ·show Act.put _ (some 11) _ = _
     simp only [Act.put,List.setIfInBounds_toArray,List.set_cons_zero,List.set_cons_succ,i64_w,i32_w]
     rfl
    refine pure_ (i:=7) (N:=some 12) (v:=?_) (a':=?_) strings_HasPrefix_b8 rfl rfl (any_of HT_.out (by kernel_rfl)) (fun _ _ _ h => h) (Or.inl ⟨by rfl,?_⟩) ?_ ?_
    rotate_left
    ·intro w'
     go_simp
     with_reducible rfl
    rotate_left
    ·simp only [Act.put,List.setIfInBounds_toArray,List.set_cons_zero,List.set_cons_succ,i64_w,i32_w]
     rfl
    refine pure_ (i:=8) (N:=some 13) (v:=?_) (a':=?_) strings_HasPrefix_b9 rfl rfl (any_of HT_.out (by kernel_rfl)) (fun _ _ _ h => h) (Or.inl ⟨by rfl,?_⟩) ?_ ?_
    rotate_left
    ·intro w'
     go_simp
     with_reducible rfl
    rotate_left
    ·simp only [Act.put,List.setIfInBounds_toArray,List.set_cons_zero,List.set_cons_succ,i64_w,i32_w]
     rfl
    refine pure_ (i:=9) (N:=some 14) (v:=undef) (a':=?_) strings_HasPrefix_b10 rfl rfl (any_of HT_.out (by kernel_rfl)) (fun _ _ _ h => h) (Or.inr ⟨by rfl,rfl⟩) ?_ ?_
    rotate_left
    ·simp only [Act.put,List.setIfInBounds_toArray,List.set_cons_zero,List.set_cons_succ,i64_w,i32_w]
     rfl
    refine pure_ (i:=10) (N:=some 15) (v:=undef) (a':=?_) strings_HasPrefix_b15 rfl rfl (any_of HT_.out (by kernel_rfl)) (fun _ _ _ h => h) (Or.inr ⟨by rfl,rfl⟩) ?_ ?_
    rotate_left
    ·simp only [Act.put,List.setIfInBounds_toArray,List.set_cons_zero,List.set_cons_succ,i64_w,i32_w]
     rfl
    refine pure_ (i:=11) (N:=some 16) (v:=undef) (a':=?_) strings_HasPrefix_b16 rfl rfl (any_of HT_.out (by kernel_rfl)) (fun _ _ _ h => h) (Or.inr ⟨by rfl,rfl⟩) ?_ ?_
    rotate_left
    ·simp only [Act.put,List.setIfInBounds_toArray,List.set_cons_zero,List.set_cons_succ,i64_w,i32_w]
     rfl
    refine pure_ (i:=12) (N:=some 17) (v:=undef) (a':=?_) strings_HasPrefix_b17 rfl rfl (any_of HT_.out (by kernel_rfl)) (fun _ _ _ h => h) (Or.inr ⟨by rfl,rfl⟩) ?_ ?_
    rotate_left
    ·simp only [Act.put,List.setIfInBounds_toArray,List.set_cons_zero,List.set_cons_succ,i64_w,i32_w]
     rfl
    refine pure_ (i:=13) (N:=some 18) (v:=undef) (a':=?_) strings_HasPrefix_b11 rfl rfl (any_of HT_.out (by kernel_rfl)) (fun _ _ _ h => h) (Or.inr ⟨by rfl,rfl⟩) ?_ ?_
    rotate_left
    ·simp only [Act.put,List.setIfInBounds_toArray,List.set_cons_zero,List.set_cons_succ,i64_w,i32_w]
     rfl
    refine pure_ (i:=14) (N:=some 19) (v:=undef) (a':=?_) strings_HasPrefix_b12 rfl rfl (any_of HT_.out (by kernel_rfl)) (fun _ _ _ h => h) (Or.inr ⟨by rfl,rfl⟩) ?_ ?_
    rotate_left
    ·simp only [Act.put,List.setIfInBounds_toArray,List.set_cons_zero,List.set_cons_succ,i64_w,i32_w]
     rfl
    refine pure_ (i:=15) (N:=some 20) (v:=?_) (a':=?_) strings_HasPrefix_b13 rfl rfl (any_of HT_.out (by kernel_rfl)) (fun _ _ _ h => h) (Or.inl ⟨by rfl,?_⟩) ?_ ?_
    rotate_left
    ·intro w'
     go_simp
     with_reducible rfl
    rotate_left
    ·simp only [Act.put,List.setIfInBounds_toArray,List.set_cons_zero,List.set_cons_succ,i64_w,i32_w]
     rfl
    refine pure_ (i:=16) (N:=some 3) (v:=?_) (a':=?_) strings_HasPrefix_b14 rfl rfl (any_of HT_.out (by kernel_rfl)) (fun _ _ _ h => h) (Or.inl ⟨by rfl,?_⟩) ?_ ?_
    rotate_left
    ·intro w'
     go_simp
     with_reducible rfl
    rotate_left
    ·simp only [Act.put,List.setIfInBounds_toArray,List.set_cons_zero,List.set_cons_succ,i64_w,i32_w]
     rfl
    refine done_ (done_of HT_.out (by kernel_rfl)) ?_
    try go_wp2
    go_meet
    case rel => exact ⟨_,(false),(by first|rfl|(simp;done)|(simp [*];done)),H',⟨by first|omega|exact Nat.le_refl _⟩,⟨by (with_reducible repeat (first|refine blk_drewN ?_ _|refine blk_drew ?_|refine blk_alloc ?_ _));exact BK183.out⟩,⟨by repeat (first|(with_reducible first|exact HB.out|apply below_alloc|apply pw_below_drewN|apply below_drew1|refine below_set ?_ GE183.out)|exact HB.out)⟩⟩
  ·replace c5:=Bool.eq_false_iff.mpr c5
   subst c5
   have H1 : (target_Check.j0 k false a0_0 a0_1 a0_2 a0_3 a0_4) = some r:=by rw [if_neg (show ¬ (false = true) by decide)] at H;exact H
   clear H
   have H:=H1
   clear H1
   have H':=Aside0.mk H
   clear H
   try go_wp2
   have n0_:=Aside0.mk (blk_drew BK183.out)
   have n1_:=Aside0.mk (below_drew1 HB.out)
   clear BK183
   clear HB
   have BK183:=n0_
   have HB:=n1_
   clear n0_ n1_
   refine start_ (n:=17) (S:=fun w' => w'.cell? ⟨gb183,0,none⟩ = some (.string a0_0) ∧ w'.cell? ⟨gb183,1,none⟩ = some (.string a0_1) ∧ w'.cell? ⟨gb183,2,none⟩ = some (.int .i64 a0_2) ∧ w'.cell? ⟨gb183,3,none⟩ = some (.string a0_3) ∧ w'.cell? ⟨gb183,4,none⟩ = some (.string a0_4)) (ds:=[]) strings_HasPrefix_b0 (by kernel_rfl) rfl rfl ⟨(blk_cell BK183.out 0).trans rfl,(blk_cell BK183.out 1).trans rfl,(blk_cell BK183.out 2).trans rfl,(blk_cell BK183.out 3).trans rfl,(blk_cell BK183.out 4).trans rfl⟩ (fun hHeld => ?_);refine with_tabW target_Check.tab1 target_Check.bits1 (fun HT_ HW_ => ?_)
   generalize w3.drew = w12 at BK183 HB hHeld ⊢
   refine pure_ (i:=0) (N:=some 5) (v:=?_) (a':=?_) strings_HasPrefix_b1 rfl rfl (any_of HT_.out (by kernel_rfl)) (fun _ _ _ h => h) (Or.inl ⟨by rfl,?_⟩) ?_ ?_
   rotate_left
   ·intro w'
    go_simp
    with_reducible rfl
   rotate_left
   ·simp only [Act.put,List.setIfInBounds_toArray,List.set_cons_zero,List.set_cons_succ,i64_w,i32_w]
    rfl
   refine take_ (i:=1) (N:=some 6) (v:=?_) (a':=?_) strings_HasPrefix_b2 rfl rfl (take_ofW HT_.out HW_.out (by kernel_rfl)) (fun _ _ _ h => h) (Or.inl ⟨by rfl,?_⟩) hHeld ?_ ?_
   rotate_left
   ·rintro w' ⟨s0,s1,s2,s3,s4⟩
    go_simp
    with_reducible rfl
   rotate_left
   ·simp only [Act.put,List.setIfInBounds_toArray,List.set_cons_zero,List.set_cons_succ,i64_w,i32_w]
    rfl
   refine one_ (i:=2) (N:=some 7) strings_HasPrefix_b3 rfl rfl (one_of HT_.out (by kernel_rfl)) (by decide) (fun K hK => ?_)
   refine goes_ Tryd.func63 (by kernel_rfl) rfl #[.string a0_3,.string (⟨#[47]⟩ : ByteArray)] (by rfl) rfl rfl (by (try simp only [List.map_toArray,List.map_cons,List.map_nil]);first|done|rfl|(simp only [List.length_drop,List.length_take];rfl)) ?_
   with_reducible refine (strings_HasPrefix.calls a0_3 (⟨#[47]⟩ : ByteArray) false _ A4.out).mono ?_
   rintro e w' ⟨rfl,⟨nd,rfl⟩⟩
   refine ⟨_,rfl,?_⟩
   refine hK.out _ _ ⟨(blk_cell BK183.out 0).trans rfl,(blk_cell BK183.out 1).trans rfl,(blk_cell BK183.out 2).trans rfl,(blk_cell BK183.out 3).trans rfl,(blk_cell BK183.out 4).trans rfl⟩ (fun hHeld => ?_)
   clear hK K
   refine norm_ (a':=?_) ?_ ?_
   rotate_left
   ·show Act.put _ (some 7) _ = _
    simp only [Act.put,List.setIfInBounds_toArray,List.set_cons_zero,List.set_cons_succ,i64_w,i32_w]
    rfl
   refine pure_ (i:=3) (N:=some 8) (v:=?_) (a':=?_) strings_HasPrefix_b4 rfl rfl (any_of HT_.out (by kernel_rfl)) (fun _ _ _ h => h) (Or.inl ⟨by rfl,?_⟩) ?_ ?_
   rotate_left
   ·intro w'
    go_simp
    with_reducible rfl
   rotate_left
   ·simp only [Act.put,List.setIfInBounds_toArray,List.set_cons_zero,List.set_cons_succ,i64_w,i32_w]
    rfl
   refine pure_ (i:=4) (N:=some 9) (v:=undef) (a':=?_) strings_HasPrefix_b5 rfl rfl (any_of HT_.out (by kernel_rfl)) (fun _ _ _ h => h) (Or.inr ⟨by rfl,rfl⟩) ?_ ?_
   rotate_left
   ·simp only [Act.put,List.setIfInBounds_toArray,List.set_cons_zero,List.set_cons_succ,i64_w,i32_w]
    rfl
   refine pure_ (i:=5) (N:=some 10) (v:=undef) (a':=?_) strings_HasPrefix_b6 rfl rfl (any_of HT_.out (by kernel_rfl)) (fun _ _ _ h => h) (Or.inr ⟨by rfl,rfl⟩) ?_ ?_
   rotate_left
   ·simp only [Act.put,List.setIfInBounds_toArray,List.set_cons_zero,List.set_cons_succ,i64_w,i32_w]
    rfl
   refine pure_ (i:=6) (N:=some 11) (v:=undef) (a':=?_) strings_HasPrefix_b7 rfl rfl (any_of HT_.out (by kernel_rfl)) (fun _ _ _ h => h) (Or.inr ⟨by rfl,rfl⟩) ?_ ?_
   rotate_left
   ·simp only [Act.put,List.setIfInBounds_toArray,List.set_cons_zero,List.set_cons_succ,i64_w,i32_w]
    rfl
   refine pure_ (i:=7) (N:=some 12) (v:=?_) (a':=?_) strings_HasPrefix_b8 rfl rfl (any_of HT_.out (by kernel_rfl)) (fun _ _ _ h => h) (Or.inl ⟨by rfl,?_⟩) ?_ ?_
   rotate_left
   ·intro w'
    go_simp
    with_reducible rfl
   rotate_left
   ·simp only [Act.put,List.setIfInBounds_toArray,List.set_cons_zero,List.set_cons_succ,i64_w,i32_w]
    rfl
   refine pure_ (i:=8) (N:=some 13) (v:=?_) (a':=?_) strings_HasPrefix_b9 rfl rfl (any_of HT_.out (by kernel_rfl)) (fun _ _ _ h => h) (Or.inl ⟨by rfl,?_⟩) ?_ ?_
   rotate_left
   ·intro w'
    go_simp
    with_reducible rfl
   rotate_left
   ·simp only [Act.put,List.setIfInBounds_toArray,List.set_cons_zero,List.set_cons_succ,i64_w,i32_w]
    rfl
   refine pure_ (i:=9) (N:=some 14) (v:=undef) (a':=?_) strings_HasPrefix_b10 rfl rfl (any_of HT_.out (by kernel_rfl)) (fun _ _ _ h => h) (Or.inr ⟨by rfl,rfl⟩) ?_ ?_
   rotate_left
   ·simp only [Act.put,List.setIfInBounds_toArray,List.set_cons_zero,List.set_cons_succ,i64_w,i32_w]
    rfl
   refine pure_ (i:=10) (N:=some 15) (v:=undef) (a':=?_) strings_HasPrefix_b15 rfl rfl (any_of HT_.out (by kernel_rfl)) (fun _ _ _ h => h) (Or.inr ⟨by rfl,rfl⟩) ?_ ?_
   rotate_left
   ·simp only [Act.put,List.setIfInBounds_toArray,List.set_cons_zero,List.set_cons_succ,i64_w,i32_w]
    rfl
   refine pure_ (i:=11) (N:=some 16) (v:=undef) (a':=?_) strings_HasPrefix_b16 rfl rfl (any_of HT_.out (by kernel_rfl)) (fun _ _ _ h => h) (Or.inr ⟨by rfl,rfl⟩) ?_ ?_
   rotate_left
   ·simp only [Act.put,List.setIfInBounds_toArray,List.set_cons_zero,List.set_cons_succ,i64_w,i32_w]
    rfl
   refine pure_ (i:=12) (N:=some 17) (v:=undef) (a':=?_) strings_HasPrefix_b17 rfl rfl (any_of HT_.out (by kernel_rfl)) (fun _ _ _ h => h) (Or.inr ⟨by rfl,rfl⟩) ?_ ?_
   rotate_left
   ·simp only [Act.put,List.setIfInBounds_toArray,List.set_cons_zero,List.set_cons_succ,i64_w,i32_w]
    rfl
   refine pure_ (i:=13) (N:=some 18) (v:=undef) (a':=?_) strings_HasPrefix_b11 rfl rfl (any_of HT_.out (by kernel_rfl)) (fun _ _ _ h => h) (Or.inr ⟨by rfl,rfl⟩) ?_ ?_
   rotate_left
   ·simp only [Act.put,List.setIfInBounds_toArray,List.set_cons_zero,List.set_cons_succ,i64_w,i32_w]
    rfl
   refine pure_ (i:=14) (N:=some 19) (v:=undef) (a':=?_) strings_HasPrefix_b12 rfl rfl (any_of HT_.out (by kernel_rfl)) (fun _ _ _ h => h) (Or.inr ⟨by rfl,rfl⟩) ?_ ?_
   rotate_left
   ·simp only [Act.put,List.setIfInBounds_toArray,List.set_cons_zero,List.set_cons_succ,i64_w,i32_w]
    rfl
   refine pure_ (i:=15) (N:=some 20) (v:=?_) (a':=?_) strings_HasPrefix_b13 rfl rfl (any_of HT_.out (by kernel_rfl)) (fun _ _ _ h => h) (Or.inl ⟨by rfl,?_⟩) ?_ ?_
   rotate_left
   ·intro w'
    go_simp
    with_reducible rfl
   rotate_left
   ·simp only [Act.put,List.setIfInBounds_toArray,List.set_cons_zero,List.set_cons_succ,i64_w,i32_w]
    rfl
   refine pure_ (i:=16) (N:=some 3) (v:=?_) (a':=?_) strings_HasPrefix_b14 rfl rfl (any_of HT_.out (by kernel_rfl)) (fun _ _ _ h => h) (Or.inl ⟨by rfl,?_⟩) ?_ ?_
   rotate_left
   ·intro w'
    go_simp
    with_reducible rfl
   rotate_left
   ·simp only [Act.put,List.setIfInBounds_toArray,List.set_cons_zero,List.set_cons_succ,i64_w,i32_w]
    rfl
   refine done_ (done_of HT_.out (by kernel_rfl)) ?_
   try go_wp2
   go_meet
   case rel => exact ⟨_,(false),(by first|rfl|(simp;done)|(simp [*];done)),H',⟨by first|omega|exact Nat.le_refl _⟩,⟨by (with_reducible repeat (first|refine blk_drewN ?_ _|refine blk_drew ?_|refine blk_alloc ?_ _));exact BK183.out⟩,⟨by repeat (first|(with_reducible first|exact HB.out|apply below_alloc|apply pw_below_drewN|apply below_drew1|refine below_set ?_ GE183.out)|exact HB.out)⟩⟩
 case rest =>
  clear HC2
  try clear p2
  try clear c3
  try clear c5
  try clear c6
  try clear c7
  obtain ⟨kq,x3_1,rfl,HA,HJ1,BK183,HB⟩:=hcut
  cases kq with
  | zero => exact absurd HA.out (by simp [target_Check.j0])
  | succ kj1 =>
   have H:=HA.out
   clear HA
   simp only [target_Check.j0] at H
   by_cases c13 : a0_4.toList = ([] : List UInt8)
   ·rw [if_pos c13] at H
    have c13b0 : (a0_4.toList == ([] : List UInt8)) = true:=beq_iff_eq.mpr c13
    have c13b1 : (a0_4.toList != ([] : List UInt8)) = false:=bne_eq_false_iff_eq.mpr c13
    clear c13
    replace H:=Option.bind_eq_some_iff.mp H
    obtain ⟨t187,A140,H⟩:=H
    replace H : (if t187 = true then (if x3_1 = true then ((target_show.f kj1 a0_0 a0_1 a0_2 a0_3 a0_4).bind fun t188 => (some (decide ((t188.size : Int) ≤ 512)))) else (some false)) else (some false)) = some r:=H
    have A14:=Aside0.mk A140
    clear A140
    by_cases c15 : t187 = true
    ·subst c15
     have H1 : (if x3_1 = true then ((target_show.f kj1 a0_0 a0_1 a0_2 a0_3 a0_4).bind fun t188 => (some (decide ((t188.size : Int) ≤ 512)))) else (some false)) = some r:=by rw [if_pos rfl] at H;exact H
     clear H
     have H:=H1
     clear H1
     by_cases c16 : x3_1 = true
     ·subst c16
      have H1 : ((target_show.f kj1 a0_0 a0_1 a0_2 a0_3 a0_4).bind fun t188 => (some (decide ((t188.size : Int) ≤ 512)))) = some r:=by rw [if_pos rfl] at H;exact H
      clear H
      have H:=H1
      clear H1
      replace H:=Option.bind_eq_some_iff.mp H
      obtain ⟨t188,A170,H⟩:=H
      replace H : (some (decide ((t188.size : Int) ≤ 512))) = some r:=H
      have A17:=Aside0.mk A170
      clear A170
      obtain rfl:=Option.some.inj H
      have hcz18_0 : wc.cell? ⟨gb183,0,none⟩ = some (.string a0_0):=(blk_cell BK183.out 0).trans rfl
      have hcz18_1 : wc.cell? ⟨gb183,1,none⟩ = some (.string a0_1):=(blk_cell BK183.out 1).trans rfl
      have hcz18_2 : wc.cell? ⟨gb183,2,none⟩ = some (.int .i64 a0_2):=(blk_cell BK183.out 2).trans rfl
      have hcz18_3 : wc.cell? ⟨gb183,3,none⟩ = some (.string a0_3):=(blk_cell BK183.out 3).trans rfl
      have hcz18_4 : wc.cell? ⟨gb183,4,none⟩ = some (.string a0_4):=(blk_cell BK183.out 4).trans rfl
      have hfz18_0:=blk_frozen BK183.out 0
      have hfz18_1:=blk_frozen BK183.out 1
      have hfz18_2:=blk_frozen BK183.out 2
      have hfz18_3:=blk_frozen BK183.out 3
      have hfz18_4:=blk_frozen BK183.out 4
      go_wp2_with (first|((with_reducible refine gate_callee (f:=21) rfl ?_);refine goesL_ (some 36) rfl rfl Tryd.func21 (by kernel_rfl) rfl #[.agg #[.string a0_0,.string a0_1,.int .i64 a0_2]] rfl (by (try simp only [List.map_toArray,List.map_cons,List.map_nil]);first|done|rfl|(simp only [List.length_drop,List.length_take];rfl)) ?_;(with_reducible refine (origin_Check.calls kj1 a0_0 a0_1 a0_2 true _ A14.out).mono ?_);rintro e w19 ⟨rfl,hb⟩;refine ⟨_,rfl,?_⟩;have n0_:=Aside0.mk (blk_below (g:=gb183) (o:=.cells #[.string a0_0,.string a0_1,.int .i64 a0_2,.string a0_3,.string a0_4] 44 (0,0)) (by (with_reducible repeat (first|refine blk_drewN ?_ _|refine blk_drew ?_|refine blk_alloc ?_ _));exact BK183.out) hb);have n1_:=Aside0.mk (below_step (by repeat (first|(with_reducible first|exact HB.out|apply below_alloc|apply pw_below_drewN|apply below_drew1|refine below_set ?_ GE183.out)|exact HB.out)) hb);clear BK183;clear HB;have BK183:=n0_;have HB:=n1_;clear n0_ n1_;(try clear hb);(try clear hb2);(try clear hk);(try clear hi);have hcz20_0 : w19.cell? ⟨gb183,0,none⟩ = some (.string a0_0):=(blk_cell BK183.out 0).trans rfl;have hcz20_1 : w19.cell? ⟨gb183,1,none⟩ = some (.string a0_1):=(blk_cell BK183.out 1).trans rfl;have hcz20_2 : w19.cell? ⟨gb183,2,none⟩ = some (.int .i64 a0_2):=(blk_cell BK183.out 2).trans rfl;have hcz20_3 : w19.cell? ⟨gb183,3,none⟩ = some (.string a0_3):=(blk_cell BK183.out 3).trans rfl;have hcz20_4 : w19.cell? ⟨gb183,4,none⟩ = some (.string a0_4):=(blk_cell BK183.out 4).trans rfl;have hfz20_0:=blk_frozen BK183.out 0;have hfz20_1:=blk_frozen BK183.out 1;have hfz20_2:=blk_frozen BK183.out 2;have hfz20_3:=blk_frozen BK183.out 3;have hfz20_4:=blk_frozen BK183.out 4)|(go_at_call 54;(with_reducible refine (target_show.calls kj1 a0_0 a0_1 a0_2 a0_3 a0_4 t188 _ ?side1 A17.out).mono ?_);(case side1 => exact ⟨by repeat (first|(with_reducible exact hM_.out)|(with_reducible exact LaidW.below hM_.out HB.out)|(with_reducible refine LaidW.alloc ?_ _)|(with_reducible refine LaidW.drewN ?_ _)|(with_reducible refine LaidW.drew ?_)|exact LaidW.below hM_.out (by repeat (first|(with_reducible first|exact HB.out|apply below_alloc|apply pw_below_drewN|apply below_drew1|refine below_set ?_ GE183.out)|exact HB.out)))⟩);rintro e w21 ⟨rfl,hb⟩;have n0_:=Aside0.mk (blk_below (g:=gb183) (o:=.cells #[.string a0_0,.string a0_1,.int .i64 a0_2,.string a0_3,.string a0_4] 44 (0,0)) (by (with_reducible repeat (first|refine blk_drewN ?_ _|refine blk_drew ?_|refine blk_alloc ?_ _));exact BK183.out) hb);have n1_:=Aside0.mk (below_step (by repeat (first|(with_reducible first|exact HB.out|apply below_alloc|apply pw_below_drewN|apply below_drew1|refine below_set ?_ GE183.out)|exact HB.out)) hb);clear BK183;clear HB;have BK183:=n0_;have HB:=n1_;clear n0_ n1_;(try clear hb);(try clear hb2);(try clear hk);(try clear hi)))
      go_ret
      exact ⟨by first|rfl|(simp [errW_none,errW_some] <;> rfl)|(simp [*,errW_none,errW_some] <;> rfl),by repeat (first|(with_reducible first|exact HB.out|apply below_alloc|apply pw_below_drewN|apply below_drew1|refine below_set ?_ GE183.out)|exact HB.out)⟩
     ·replace c16:=Bool.eq_false_iff.mpr c16
      subst c16
      have H1 : (some false) = some r:=by rw [if_neg (show ¬ (false = true) by decide)] at H;exact H
      clear H
      have H:=H1
      clear H1
      obtain rfl:=Option.some.inj H
      have hcz22_0 : wc.cell? ⟨gb183,0,none⟩ = some (.string a0_0):=(blk_cell BK183.out 0).trans rfl
      have hcz22_1 : wc.cell? ⟨gb183,1,none⟩ = some (.string a0_1):=(blk_cell BK183.out 1).trans rfl
      have hcz22_2 : wc.cell? ⟨gb183,2,none⟩ = some (.int .i64 a0_2):=(blk_cell BK183.out 2).trans rfl
      have hcz22_3 : wc.cell? ⟨gb183,3,none⟩ = some (.string a0_3):=(blk_cell BK183.out 3).trans rfl
      have hcz22_4 : wc.cell? ⟨gb183,4,none⟩ = some (.string a0_4):=(blk_cell BK183.out 4).trans rfl
      have hfz22_0:=blk_frozen BK183.out 0
      have hfz22_1:=blk_frozen BK183.out 1
      have hfz22_2:=blk_frozen BK183.out 2
      have hfz22_3:=blk_frozen BK183.out 3
      have hfz22_4:=blk_frozen BK183.out 4
      go_wp2_with (first|((with_reducible refine gate_callee (f:=21) rfl ?_);refine goesL_ (some 36) rfl rfl Tryd.func21 (by kernel_rfl) rfl #[.agg #[.string a0_0,.string a0_1,.int .i64 a0_2]] rfl (by (try simp only [List.map_toArray,List.map_cons,List.map_nil]);first|done|rfl|(simp only [List.length_drop,List.length_take];rfl)) ?_;(with_reducible refine (origin_Check.calls kj1 a0_0 a0_1 a0_2 true _ A14.out).mono ?_);rintro e w23 ⟨rfl,hb⟩;refine ⟨_,rfl,?_⟩;have n0_:=Aside0.mk (blk_below (g:=gb183) (o:=.cells #[.string a0_0,.string a0_1,.int .i64 a0_2,.string a0_3,.string a0_4] 44 (0,0)) (by (with_reducible repeat (first|refine blk_drewN ?_ _|refine blk_drew ?_|refine blk_alloc ?_ _));exact BK183.out) hb);have n1_:=Aside0.mk (below_step (by repeat (first|(with_reducible first|exact HB.out|apply below_alloc|apply pw_below_drewN|apply below_drew1|refine below_set ?_ GE183.out)|exact HB.out)) hb);clear BK183;clear HB;have BK183:=n0_;have HB:=n1_;clear n0_ n1_;(try clear hb);(try clear hb2);(try clear hk);(try clear hi)))
      go_ret
      exact ⟨by first|rfl|(simp [errW_none,errW_some] <;> rfl)|(simp [*,errW_none,errW_some] <;> rfl),by repeat (first|(with_reducible first|exact HB.out|apply below_alloc|apply pw_below_drewN|apply below_drew1|refine below_set ?_ GE183.out)|exact HB.out)⟩
    ·replace c15:=Bool.eq_false_iff.mpr c15
     subst c15
     have H1 : (some false) = some r:=by rw [if_neg (show ¬ (false = true) by decide)] at H;exact H
     clear H
     have H:=H1
     clear H1
     obtain rfl:=Option.some.inj H
     have hcz24_0 : wc.cell? ⟨gb183,0,none⟩ = some (.string a0_0):=(blk_cell BK183.out 0).trans rfl
     have hcz24_1 : wc.cell? ⟨gb183,1,none⟩ = some (.string a0_1):=(blk_cell BK183.out 1).trans rfl
     have hcz24_2 : wc.cell? ⟨gb183,2,none⟩ = some (.int .i64 a0_2):=(blk_cell BK183.out 2).trans rfl
     have hcz24_3 : wc.cell? ⟨gb183,3,none⟩ = some (.string a0_3):=(blk_cell BK183.out 3).trans rfl
     have hcz24_4 : wc.cell? ⟨gb183,4,none⟩ = some (.string a0_4):=(blk_cell BK183.out 4).trans rfl
     have hfz24_0:=blk_frozen BK183.out 0
     have hfz24_1:=blk_frozen BK183.out 1
     have hfz24_2:=blk_frozen BK183.out 2
     have hfz24_3:=blk_frozen BK183.out 3
     have hfz24_4:=blk_frozen BK183.out 4
     go_wp2_with (first|((with_reducible refine gate_callee (f:=21) rfl ?_);refine goesL_ (some 36) rfl rfl Tryd.func21 (by kernel_rfl) rfl #[.agg #[.string a0_0,.string a0_1,.int .i64 a0_2]] rfl (by (try simp only [List.map_toArray,List.map_cons,List.map_nil]);first|done|rfl|(simp only [List.length_drop,List.length_take];rfl)) ?_;(with_reducible refine (origin_Check.calls kj1 a0_0 a0_1 a0_2 false _ A14.out).mono ?_);rintro e w25 ⟨rfl,hb⟩;refine ⟨_,rfl,?_⟩;have n0_:=Aside0.mk (blk_below (g:=gb183) (o:=.cells #[.string a0_0,.string a0_1,.int .i64 a0_2,.string a0_3,.string a0_4] 44 (0,0)) (by (with_reducible repeat (first|refine blk_drewN ?_ _|refine blk_drew ?_|refine blk_alloc ?_ _));exact BK183.out) hb);have n1_:=Aside0.mk (below_step (by repeat (first|(with_reducible first|exact HB.out|apply below_alloc|apply pw_below_drewN|apply below_drew1|refine below_set ?_ GE183.out)|exact HB.out)) hb);clear BK183;clear HB;have BK183:=n0_;have HB:=n1_;clear n0_ n1_;(try clear hb);(try clear hb2);(try clear hk);(try clear hi)))
     go_ret
     exact ⟨by first|rfl|(simp [errW_none,errW_some] <;> rfl)|(simp [*,errW_none,errW_some] <;> rfl),by repeat (first|(with_reducible first|exact HB.out|apply below_alloc|apply pw_below_drewN|apply below_drew1|refine below_set ?_ GE183.out)|exact HB.out)⟩
   ·rw [if_neg c13] at H
    have c13b0 : (a0_4.toList == ([] : List UInt8)) = false:=beq_eq_false_iff_ne.mpr c13
    have c13b1 : (a0_4.toList != ([] : List UInt8)) = true:=bne_iff_ne.mpr c13
    replace H:=Option.bind_eq_some_iff.mp H
    obtain ⟨t189,A260,H⟩:=H
    replace H : (if t189 = true then ((target_all.f kj1 a0_4 (⟨#[34,35,60,62]⟩ : ByteArray)).bind fun t190 => ((origin_Check.f kj1 a0_0 a0_1 a0_2).bind fun t191 => (if t191 = true then (if x3_1 = true then (if t190 = true then ((target_show.f kj1 a0_0 a0_1 a0_2 a0_3 a0_4).bind fun t192 => (some (decide ((t192.size : Int) ≤ 512)))) else (some false)) else (some false)) else (some false)))) else ((origin_Check.f kj1 a0_0 a0_1 a0_2).bind fun t193 => (if t193 = true then (if x3_1 = true then (some false) else (some false)) else (some false)))) = some r:=H
    have A26:=Aside0.mk A260
    clear A260
    by_cases c27 : t189 = true
    ·subst c27
     have H1 : ((target_all.f kj1 a0_4 (⟨#[34,35,60,62]⟩ : ByteArray)).bind fun t190 => ((origin_Check.f kj1 a0_0 a0_1 a0_2).bind fun t191 => (if t191 = true then (if x3_1 = true then (if t190 = true then ((target_show.f kj1 a0_0 a0_1 a0_2 a0_3 a0_4).bind fun t192 => (some (decide ((t192.size : Int) ≤ 512)))) else (some false)) else (some false)) else (some false)))) = some r:=by rw [if_pos rfl] at H;exact H
     clear H
     have H:=H1
     clear H1
     replace H:=Option.bind_eq_some_iff.mp H
     obtain ⟨t190,A280,H⟩:=H
     replace H : ((origin_Check.f kj1 a0_0 a0_1 a0_2).bind fun t191 => (if t191 = true then (if x3_1 = true then (if t190 = true then ((target_show.f kj1 a0_0 a0_1 a0_2 a0_3 a0_4).bind fun t192 => (some (decide ((t192.size : Int) ≤ 512)))) else (some false)) else (some false)) else (some false))) = some r:=H
     have A28:=Aside0.mk A280
     clear A280
     replace H:=Option.bind_eq_some_iff.mp H
     obtain ⟨t191,A290,H⟩:=H
     replace H : (if t191 = true then (if x3_1 = true then (if t190 = true then ((target_show.f kj1 a0_0 a0_1 a0_2 a0_3 a0_4).bind fun t192 => (some (decide ((t192.size : Int) ≤ 512)))) else (some false)) else (some false)) else (some false)) = some r:=H
     have A29:=Aside0.mk A290
     clear A290
     by_cases c30 : t191 = true
     ·subst c30
      have H1 : (if x3_1 = true then (if t190 = true then ((target_show.f kj1 a0_0 a0_1 a0_2 a0_3 a0_4).bind fun t192 => (some (decide ((t192.size : Int) ≤ 512)))) else (some false)) else (some false)) = some r:=by rw [if_pos rfl] at H;exact H
      clear H
      have H:=H1
      clear H1
      by_cases c31 : x3_1 = true
      ·subst c31
       have H1 : (if t190 = true then ((target_show.f kj1 a0_0 a0_1 a0_2 a0_3 a0_4).bind fun t192 => (some (decide ((t192.size : Int) ≤ 512)))) else (some false)) = some r:=by rw [if_pos rfl] at H;exact H
       clear H
       have H:=H1
       clear H1
       by_cases c32 : t190 = true
       ·subst c32
        have H1 : ((target_show.f kj1 a0_0 a0_1 a0_2 a0_3 a0_4).bind fun t192 => (some (decide ((t192.size : Int) ≤ 512)))) = some r:=by rw [if_pos rfl] at H;exact H
        clear H
        have H:=H1
        clear H1
        replace H:=Option.bind_eq_some_iff.mp H
        obtain ⟨t192,A330,H⟩:=H
        replace H : (some (decide ((t192.size : Int) ≤ 512))) = some r:=H
        have A33:=Aside0.mk A330
        clear A330
        obtain rfl:=Option.some.inj H
        have hcz34_0 : wc.cell? ⟨gb183,0,none⟩ = some (.string a0_0):=(blk_cell BK183.out 0).trans rfl
        have hcz34_1 : wc.cell? ⟨gb183,1,none⟩ = some (.string a0_1):=(blk_cell BK183.out 1).trans rfl
        have hcz34_2 : wc.cell? ⟨gb183,2,none⟩ = some (.int .i64 a0_2):=(blk_cell BK183.out 2).trans rfl
        have hcz34_3 : wc.cell? ⟨gb183,3,none⟩ = some (.string a0_3):=(blk_cell BK183.out 3).trans rfl
        have hcz34_4 : wc.cell? ⟨gb183,4,none⟩ = some (.string a0_4):=(blk_cell BK183.out 4).trans rfl
        have hfz34_0:=blk_frozen BK183.out 0
        have hfz34_1:=blk_frozen BK183.out 1
        have hfz34_2:=blk_frozen BK183.out 2
        have hfz34_3:=blk_frozen BK183.out 3
        have hfz34_4:=blk_frozen BK183.out 4
        go_wp2_with (first|(go_at_call 63;(with_reducible refine (strings_HasPrefix.calls a0_4 (⟨#[63]⟩ : ByteArray) true _ A26.out).mono ?_);rintro e w' ⟨rfl,⟨nd,rfl⟩⟩)|(go_at_call 53;(with_reducible refine (target_all.calls kj1 a0_4 (⟨#[34,35,60,62]⟩ : ByteArray) true _ A28.out).mono ?_);rintro e w' ⟨rfl,⟨nd,rfl⟩⟩)|((with_reducible refine gate_callee (f:=21) rfl ?_);refine goesL_ (some 36) rfl rfl Tryd.func21 (by kernel_rfl) rfl #[.agg #[.string a0_0,.string a0_1,.int .i64 a0_2]] rfl (by (try simp only [List.map_toArray,List.map_cons,List.map_nil]);first|done|rfl|(simp only [List.length_drop,List.length_take];rfl)) ?_;(with_reducible refine (origin_Check.calls kj1 a0_0 a0_1 a0_2 true _ A29.out).mono ?_);rintro e w35 ⟨rfl,hb⟩;refine ⟨_,rfl,?_⟩;have n0_:=Aside0.mk (blk_below (g:=gb183) (o:=.cells #[.string a0_0,.string a0_1,.int .i64 a0_2,.string a0_3,.string a0_4] 44 (0,0)) (by (with_reducible repeat (first|refine blk_drewN ?_ _|refine blk_drew ?_|refine blk_alloc ?_ _));exact BK183.out) hb);have n1_:=Aside0.mk (below_step (by repeat (first|(with_reducible first|exact HB.out|apply below_alloc|apply pw_below_drewN|apply below_drew1|refine below_set ?_ GE183.out)|exact HB.out)) hb);clear BK183;clear HB;have BK183:=n0_;have HB:=n1_;clear n0_ n1_;(try clear hb);(try clear hb2);(try clear hk);(try clear hi);have hcz36_0 : w35.cell? ⟨gb183,0,none⟩ = some (.string a0_0):=(blk_cell BK183.out 0).trans rfl;have hcz36_1 : w35.cell? ⟨gb183,1,none⟩ = some (.string a0_1):=(blk_cell BK183.out 1).trans rfl;have hcz36_2 : w35.cell? ⟨gb183,2,none⟩ = some (.int .i64 a0_2):=(blk_cell BK183.out 2).trans rfl;have hcz36_3 : w35.cell? ⟨gb183,3,none⟩ = some (.string a0_3):=(blk_cell BK183.out 3).trans rfl;have hcz36_4 : w35.cell? ⟨gb183,4,none⟩ = some (.string a0_4):=(blk_cell BK183.out 4).trans rfl;have hfz36_0:=blk_frozen BK183.out 0;have hfz36_1:=blk_frozen BK183.out 1;have hfz36_2:=blk_frozen BK183.out 2;have hfz36_3:=blk_frozen BK183.out 3;have hfz36_4:=blk_frozen BK183.out 4)|(go_at_call 54;(with_reducible refine (target_show.calls kj1 a0_0 a0_1 a0_2 a0_3 a0_4 t192 _ ?side1 A33.out).mono ?_);(case side1 => exact ⟨by repeat (first|(with_reducible exact hM_.out)|(with_reducible exact LaidW.below hM_.out HB.out)|(with_reducible refine LaidW.alloc ?_ _)|(with_reducible refine LaidW.drewN ?_ _)|(with_reducible refine LaidW.drew ?_)|exact LaidW.below hM_.out (by repeat (first|(with_reducible first|exact HB.out|apply below_alloc|apply pw_below_drewN|apply below_drew1|refine below_set ?_ GE183.out)|exact HB.out)))⟩);rintro e w37 ⟨rfl,hb⟩;have n0_:=Aside0.mk (blk_below (g:=gb183) (o:=.cells #[.string a0_0,.string a0_1,.int .i64 a0_2,.string a0_3,.string a0_4] 44 (0,0)) (by (with_reducible repeat (first|refine blk_drewN ?_ _|refine blk_drew ?_|refine blk_alloc ?_ _));exact BK183.out) hb);have n1_:=Aside0.mk (below_step (by repeat (first|(with_reducible first|exact HB.out|apply below_alloc|apply pw_below_drewN|apply below_drew1|refine below_set ?_ GE183.out)|exact HB.out)) hb);clear BK183;clear HB;have BK183:=n0_;have HB:=n1_;clear n0_ n1_;(try clear hb);(try clear hb2);(try clear hk);(try clear hi)))
        go_ret
        exact ⟨by first|rfl|(simp [errW_none,errW_some] <;> rfl)|(simp [*,errW_none,errW_some] <;> rfl),by repeat (first|(with_reducible first|exact HB.out|apply below_alloc|apply pw_below_drewN|apply below_drew1|refine below_set ?_ GE183.out)|exact HB.out)⟩
       ·replace c32:=Bool.eq_false_iff.mpr c32
        subst c32
        have H1 : (some false) = some r:=by rw [if_neg (show ¬ (false = true) by decide)] at H;exact H
        clear H
        have H:=H1
        clear H1
        obtain rfl:=Option.some.inj H
        have hcz38_0 : wc.cell? ⟨gb183,0,none⟩ = some (.string a0_0):=(blk_cell BK183.out 0).trans rfl
        have hcz38_1 : wc.cell? ⟨gb183,1,none⟩ = some (.string a0_1):=(blk_cell BK183.out 1).trans rfl
        have hcz38_2 : wc.cell? ⟨gb183,2,none⟩ = some (.int .i64 a0_2):=(blk_cell BK183.out 2).trans rfl
        have hcz38_3 : wc.cell? ⟨gb183,3,none⟩ = some (.string a0_3):=(blk_cell BK183.out 3).trans rfl
        have hcz38_4 : wc.cell? ⟨gb183,4,none⟩ = some (.string a0_4):=(blk_cell BK183.out 4).trans rfl
        have hfz38_0:=blk_frozen BK183.out 0
        have hfz38_1:=blk_frozen BK183.out 1
        have hfz38_2:=blk_frozen BK183.out 2
        have hfz38_3:=blk_frozen BK183.out 3
        have hfz38_4:=blk_frozen BK183.out 4
        go_wp2_with (first|(go_at_call 63;(with_reducible refine (strings_HasPrefix.calls a0_4 (⟨#[63]⟩ : ByteArray) true _ A26.out).mono ?_);rintro e w' ⟨rfl,⟨nd,rfl⟩⟩)|(go_at_call 53;(with_reducible refine (target_all.calls kj1 a0_4 (⟨#[34,35,60,62]⟩ : ByteArray) false _ A28.out).mono ?_);rintro e w' ⟨rfl,⟨nd,rfl⟩⟩)|((with_reducible refine gate_callee (f:=21) rfl ?_);refine goesL_ (some 36) rfl rfl Tryd.func21 (by kernel_rfl) rfl #[.agg #[.string a0_0,.string a0_1,.int .i64 a0_2]] rfl (by (try simp only [List.map_toArray,List.map_cons,List.map_nil]);first|done|rfl|(simp only [List.length_drop,List.length_take];rfl)) ?_;(with_reducible refine (origin_Check.calls kj1 a0_0 a0_1 a0_2 true _ A29.out).mono ?_);rintro e w39 ⟨rfl,hb⟩;refine ⟨_,rfl,?_⟩;have n0_:=Aside0.mk (blk_below (g:=gb183) (o:=.cells #[.string a0_0,.string a0_1,.int .i64 a0_2,.string a0_3,.string a0_4] 44 (0,0)) (by (with_reducible repeat (first|refine blk_drewN ?_ _|refine blk_drew ?_|refine blk_alloc ?_ _));exact BK183.out) hb);have n1_:=Aside0.mk (below_step (by repeat (first|(with_reducible first|exact HB.out|apply below_alloc|apply pw_below_drewN|apply below_drew1|refine below_set ?_ GE183.out)|exact HB.out)) hb);clear BK183;clear HB;have BK183:=n0_;have HB:=n1_;clear n0_ n1_;(try clear hb);(try clear hb2);(try clear hk);(try clear hi)))
        go_ret
        exact ⟨by first|rfl|(simp [errW_none,errW_some] <;> rfl)|(simp [*,errW_none,errW_some] <;> rfl),by repeat (first|(with_reducible first|exact HB.out|apply below_alloc|apply pw_below_drewN|apply below_drew1|refine below_set ?_ GE183.out)|exact HB.out)⟩
      ·replace c31:=Bool.eq_false_iff.mpr c31
       subst c31
       have H1 : (some false) = some r:=by rw [if_neg (show ¬ (false = true) by decide)] at H;exact H
       clear H
       have H:=H1
       clear H1
       obtain rfl:=Option.some.inj H
       have hcz40_0 : wc.cell? ⟨gb183,0,none⟩ = some (.string a0_0):=(blk_cell BK183.out 0).trans rfl
       have hcz40_1 : wc.cell? ⟨gb183,1,none⟩ = some (.string a0_1):=(blk_cell BK183.out 1).trans rfl
       have hcz40_2 : wc.cell? ⟨gb183,2,none⟩ = some (.int .i64 a0_2):=(blk_cell BK183.out 2).trans rfl
       have hcz40_3 : wc.cell? ⟨gb183,3,none⟩ = some (.string a0_3):=(blk_cell BK183.out 3).trans rfl
       have hcz40_4 : wc.cell? ⟨gb183,4,none⟩ = some (.string a0_4):=(blk_cell BK183.out 4).trans rfl
       have hfz40_0:=blk_frozen BK183.out 0
       have hfz40_1:=blk_frozen BK183.out 1
       have hfz40_2:=blk_frozen BK183.out 2
       have hfz40_3:=blk_frozen BK183.out 3
       have hfz40_4:=blk_frozen BK183.out 4
       go_wp2_with (first|(go_at_call 63;(with_reducible refine (strings_HasPrefix.calls a0_4 (⟨#[63]⟩ : ByteArray) true _ A26.out).mono ?_);rintro e w' ⟨rfl,⟨nd,rfl⟩⟩)|(go_at_call 53;(with_reducible refine (target_all.calls kj1 a0_4 (⟨#[34,35,60,62]⟩ : ByteArray) t190 _ A28.out).mono ?_);rintro e w' ⟨rfl,⟨nd,rfl⟩⟩)|((with_reducible refine gate_callee (f:=21) rfl ?_);refine goesL_ (some 36) rfl rfl Tryd.func21 (by kernel_rfl) rfl #[.agg #[.string a0_0,.string a0_1,.int .i64 a0_2]] rfl (by (try simp only [List.map_toArray,List.map_cons,List.map_nil]);first|done|rfl|(simp only [List.length_drop,List.length_take];rfl)) ?_;(with_reducible refine (origin_Check.calls kj1 a0_0 a0_1 a0_2 true _ A29.out).mono ?_);rintro e w41 ⟨rfl,hb⟩;refine ⟨_,rfl,?_⟩;have n0_:=Aside0.mk (blk_below (g:=gb183) (o:=.cells #[.string a0_0,.string a0_1,.int .i64 a0_2,.string a0_3,.string a0_4] 44 (0,0)) (by (with_reducible repeat (first|refine blk_drewN ?_ _|refine blk_drew ?_|refine blk_alloc ?_ _));exact BK183.out) hb);have n1_:=Aside0.mk (below_step (by repeat (first|(with_reducible first|exact HB.out|apply below_alloc|apply pw_below_drewN|apply below_drew1|refine below_set ?_ GE183.out)|exact HB.out)) hb);clear BK183;clear HB;have BK183:=n0_;have HB:=n1_;clear n0_ n1_;(try clear hb);(try clear hb2);(try clear hk);(try clear hi)))
       go_ret
       exact ⟨by first|rfl|(simp [errW_none,errW_some] <;> rfl)|(simp [*,errW_none,errW_some] <;> rfl),by repeat (first|(with_reducible first|exact HB.out|apply below_alloc|apply pw_below_drewN|apply below_drew1|refine below_set ?_ GE183.out)|exact HB.out)⟩
     ·replace c30:=Bool.eq_false_iff.mpr c30
      subst c30
      have H1 : (some false) = some r:=by rw [if_neg (show ¬ (false = true) by decide)] at H;exact H
      clear H
      have H:=H1
      clear H1
      obtain rfl:=Option.some.inj H
      have hcz42_0 : wc.cell? ⟨gb183,0,none⟩ = some (.string a0_0):=(blk_cell BK183.out 0).trans rfl
      have hcz42_1 : wc.cell? ⟨gb183,1,none⟩ = some (.string a0_1):=(blk_cell BK183.out 1).trans rfl
      have hcz42_2 : wc.cell? ⟨gb183,2,none⟩ = some (.int .i64 a0_2):=(blk_cell BK183.out 2).trans rfl
      have hcz42_3 : wc.cell? ⟨gb183,3,none⟩ = some (.string a0_3):=(blk_cell BK183.out 3).trans rfl
      have hcz42_4 : wc.cell? ⟨gb183,4,none⟩ = some (.string a0_4):=(blk_cell BK183.out 4).trans rfl
      have hfz42_0:=blk_frozen BK183.out 0
      have hfz42_1:=blk_frozen BK183.out 1
      have hfz42_2:=blk_frozen BK183.out 2
      have hfz42_3:=blk_frozen BK183.out 3
      have hfz42_4:=blk_frozen BK183.out 4
      go_wp2_with (first|(go_at_call 63;(with_reducible refine (strings_HasPrefix.calls a0_4 (⟨#[63]⟩ : ByteArray) true _ A26.out).mono ?_);rintro e w' ⟨rfl,⟨nd,rfl⟩⟩)|(go_at_call 53;(with_reducible refine (target_all.calls kj1 a0_4 (⟨#[34,35,60,62]⟩ : ByteArray) t190 _ A28.out).mono ?_);rintro e w' ⟨rfl,⟨nd,rfl⟩⟩)|((with_reducible refine gate_callee (f:=21) rfl ?_);refine goesL_ (some 36) rfl rfl Tryd.func21 (by kernel_rfl) rfl #[.agg #[.string a0_0,.string a0_1,.int .i64 a0_2]] rfl (by (try simp only [List.map_toArray,List.map_cons,List.map_nil]);first|done|rfl|(simp only [List.length_drop,List.length_take];rfl)) ?_;(with_reducible refine (origin_Check.calls kj1 a0_0 a0_1 a0_2 false _ A29.out).mono ?_);rintro e w43 ⟨rfl,hb⟩;refine ⟨_,rfl,?_⟩;have n0_:=Aside0.mk (blk_below (g:=gb183) (o:=.cells #[.string a0_0,.string a0_1,.int .i64 a0_2,.string a0_3,.string a0_4] 44 (0,0)) (by (with_reducible repeat (first|refine blk_drewN ?_ _|refine blk_drew ?_|refine blk_alloc ?_ _));exact BK183.out) hb);have n1_:=Aside0.mk (below_step (by repeat (first|(with_reducible first|exact HB.out|apply below_alloc|apply pw_below_drewN|apply below_drew1|refine below_set ?_ GE183.out)|exact HB.out)) hb);clear BK183;clear HB;have BK183:=n0_;have HB:=n1_;clear n0_ n1_;(try clear hb);(try clear hb2);(try clear hk);(try clear hi)))
      go_ret
      exact ⟨by first|rfl|(simp [errW_none,errW_some] <;> rfl)|(simp [*,errW_none,errW_some] <;> rfl),by repeat (first|(with_reducible first|exact HB.out|apply below_alloc|apply pw_below_drewN|apply below_drew1|refine below_set ?_ GE183.out)|exact HB.out)⟩
    ·replace c27:=Bool.eq_false_iff.mpr c27
     subst c27
     have H1 : ((origin_Check.f kj1 a0_0 a0_1 a0_2).bind fun t193 => (if t193 = true then (if x3_1 = true then (some false) else (some false)) else (some false))) = some r:=by rw [if_neg (show ¬ (false = true) by decide)] at H;exact H
     clear H
     have H:=H1
     clear H1
     replace H:=Option.bind_eq_some_iff.mp H
     obtain ⟨t193,A440,H⟩:=H
     replace H : (if t193 = true then (if x3_1 = true then (some false) else (some false)) else (some false)) = some r:=H
     have A44:=Aside0.mk A440
     clear A440
     by_cases c45 : t193 = true
     ·subst c45
      have H1 : (if x3_1 = true then (some false) else (some false)) = some r:=by rw [if_pos rfl] at H;exact H
      clear H
      have H:=H1
      clear H1
      by_cases c46 : x3_1 = true
      ·subst c46
       have H1 : (some false) = some r:=by rw [if_pos rfl] at H;exact H
       clear H
       have H:=H1
       clear H1
       obtain rfl:=Option.some.inj H
       have hcz47_0 : wc.cell? ⟨gb183,0,none⟩ = some (.string a0_0):=(blk_cell BK183.out 0).trans rfl
       have hcz47_1 : wc.cell? ⟨gb183,1,none⟩ = some (.string a0_1):=(blk_cell BK183.out 1).trans rfl
       have hcz47_2 : wc.cell? ⟨gb183,2,none⟩ = some (.int .i64 a0_2):=(blk_cell BK183.out 2).trans rfl
       have hcz47_3 : wc.cell? ⟨gb183,3,none⟩ = some (.string a0_3):=(blk_cell BK183.out 3).trans rfl
       have hcz47_4 : wc.cell? ⟨gb183,4,none⟩ = some (.string a0_4):=(blk_cell BK183.out 4).trans rfl
       have hfz47_0:=blk_frozen BK183.out 0
       have hfz47_1:=blk_frozen BK183.out 1
       have hfz47_2:=blk_frozen BK183.out 2
       have hfz47_3:=blk_frozen BK183.out 3
       have hfz47_4:=blk_frozen BK183.out 4
       go_wp2_with (first|(go_at_call 63;(with_reducible refine (strings_HasPrefix.calls a0_4 (⟨#[63]⟩ : ByteArray) false _ A26.out).mono ?_);rintro e w' ⟨rfl,⟨nd,rfl⟩⟩)|((with_reducible refine gate_callee (f:=21) rfl ?_);refine goesL_ (some 36) rfl rfl Tryd.func21 (by kernel_rfl) rfl #[.agg #[.string a0_0,.string a0_1,.int .i64 a0_2]] rfl (by (try simp only [List.map_toArray,List.map_cons,List.map_nil]);first|done|rfl|(simp only [List.length_drop,List.length_take];rfl)) ?_;(with_reducible refine (origin_Check.calls kj1 a0_0 a0_1 a0_2 true _ A44.out).mono ?_);rintro e w48 ⟨rfl,hb⟩;refine ⟨_,rfl,?_⟩;have n0_:=Aside0.mk (blk_below (g:=gb183) (o:=.cells #[.string a0_0,.string a0_1,.int .i64 a0_2,.string a0_3,.string a0_4] 44 (0,0)) (by (with_reducible repeat (first|refine blk_drewN ?_ _|refine blk_drew ?_|refine blk_alloc ?_ _));exact BK183.out) hb);have n1_:=Aside0.mk (below_step (by repeat (first|(with_reducible first|exact HB.out|apply below_alloc|apply pw_below_drewN|apply below_drew1|refine below_set ?_ GE183.out)|exact HB.out)) hb);clear BK183;clear HB;have BK183:=n0_;have HB:=n1_;clear n0_ n1_;(try clear hb);(try clear hb2);(try clear hk);(try clear hi)))
       go_ret
       exact ⟨by first|rfl|(simp [errW_none,errW_some] <;> rfl)|(simp [*,errW_none,errW_some] <;> rfl),by repeat (first|(with_reducible first|exact HB.out|apply below_alloc|apply pw_below_drewN|apply below_drew1|refine below_set ?_ GE183.out)|exact HB.out)⟩
      ·replace c46:=Bool.eq_false_iff.mpr c46
       subst c46
       have H1 : (some false) = some r:=by rw [if_neg (show ¬ (false = true) by decide)] at H;exact H
       clear H
       have H:=H1
       clear H1
       obtain rfl:=Option.some.inj H
       have hcz49_0 : wc.cell? ⟨gb183,0,none⟩ = some (.string a0_0):=(blk_cell BK183.out 0).trans rfl
       have hcz49_1 : wc.cell? ⟨gb183,1,none⟩ = some (.string a0_1):=(blk_cell BK183.out 1).trans rfl
       have hcz49_2 : wc.cell? ⟨gb183,2,none⟩ = some (.int .i64 a0_2):=(blk_cell BK183.out 2).trans rfl
       have hcz49_3 : wc.cell? ⟨gb183,3,none⟩ = some (.string a0_3):=(blk_cell BK183.out 3).trans rfl
       have hcz49_4 : wc.cell? ⟨gb183,4,none⟩ = some (.string a0_4):=(blk_cell BK183.out 4).trans rfl
       have hfz49_0:=blk_frozen BK183.out 0
       have hfz49_1:=blk_frozen BK183.out 1
       have hfz49_2:=blk_frozen BK183.out 2
       have hfz49_3:=blk_frozen BK183.out 3
       have hfz49_4:=blk_frozen BK183.out 4
       go_wp2_with (first|(go_at_call 63;(with_reducible refine (strings_HasPrefix.calls a0_4 (⟨#[63]⟩ : ByteArray) false _ A26.out).mono ?_);rintro e w' ⟨rfl,⟨nd,rfl⟩⟩)|((with_reducible refine gate_callee (f:=21) rfl ?_);refine goesL_ (some 36) rfl rfl Tryd.func21 (by kernel_rfl) rfl #[.agg #[.string a0_0,.string a0_1,.int .i64 a0_2]] rfl (by (try simp only [List.map_toArray,List.map_cons,List.map_nil]);first|done|rfl|(simp only [List.length_drop,List.length_take];rfl)) ?_;(with_reducible refine (origin_Check.calls kj1 a0_0 a0_1 a0_2 true _ A44.out).mono ?_);rintro e w50 ⟨rfl,hb⟩;refine ⟨_,rfl,?_⟩;have n0_:=Aside0.mk (blk_below (g:=gb183) (o:=.cells #[.string a0_0,.string a0_1,.int .i64 a0_2,.string a0_3,.string a0_4] 44 (0,0)) (by (with_reducible repeat (first|refine blk_drewN ?_ _|refine blk_drew ?_|refine blk_alloc ?_ _));exact BK183.out) hb);have n1_:=Aside0.mk (below_step (by repeat (first|(with_reducible first|exact HB.out|apply below_alloc|apply pw_below_drewN|apply below_drew1|refine below_set ?_ GE183.out)|exact HB.out)) hb);clear BK183;clear HB;have BK183:=n0_;have HB:=n1_;clear n0_ n1_;(try clear hb);(try clear hb2);(try clear hk);(try clear hi)))
       go_ret
       exact ⟨by first|rfl|(simp [errW_none,errW_some] <;> rfl)|(simp [*,errW_none,errW_some] <;> rfl),by repeat (first|(with_reducible first|exact HB.out|apply below_alloc|apply pw_below_drewN|apply below_drew1|refine below_set ?_ GE183.out)|exact HB.out)⟩
     ·replace c45:=Bool.eq_false_iff.mpr c45
      subst c45
      have H1 : (some false) = some r:=by rw [if_neg (show ¬ (false = true) by decide)] at H;exact H
      clear H
      have H:=H1
      clear H1
      obtain rfl:=Option.some.inj H
      have hcz51_0 : wc.cell? ⟨gb183,0,none⟩ = some (.string a0_0):=(blk_cell BK183.out 0).trans rfl
      have hcz51_1 : wc.cell? ⟨gb183,1,none⟩ = some (.string a0_1):=(blk_cell BK183.out 1).trans rfl
      have hcz51_2 : wc.cell? ⟨gb183,2,none⟩ = some (.int .i64 a0_2):=(blk_cell BK183.out 2).trans rfl
      have hcz51_3 : wc.cell? ⟨gb183,3,none⟩ = some (.string a0_3):=(blk_cell BK183.out 3).trans rfl
      have hcz51_4 : wc.cell? ⟨gb183,4,none⟩ = some (.string a0_4):=(blk_cell BK183.out 4).trans rfl
      have hfz51_0:=blk_frozen BK183.out 0
      have hfz51_1:=blk_frozen BK183.out 1
      have hfz51_2:=blk_frozen BK183.out 2
      have hfz51_3:=blk_frozen BK183.out 3
      have hfz51_4:=blk_frozen BK183.out 4
      go_wp2_with (first|(go_at_call 63;(with_reducible refine (strings_HasPrefix.calls a0_4 (⟨#[63]⟩ : ByteArray) false _ A26.out).mono ?_);rintro e w' ⟨rfl,⟨nd,rfl⟩⟩)|((with_reducible refine gate_callee (f:=21) rfl ?_);refine goesL_ (some 36) rfl rfl Tryd.func21 (by kernel_rfl) rfl #[.agg #[.string a0_0,.string a0_1,.int .i64 a0_2]] rfl (by (try simp only [List.map_toArray,List.map_cons,List.map_nil]);first|done|rfl|(simp only [List.length_drop,List.length_take];rfl)) ?_;(with_reducible refine (origin_Check.calls kj1 a0_0 a0_1 a0_2 false _ A44.out).mono ?_);rintro e w52 ⟨rfl,hb⟩;refine ⟨_,rfl,?_⟩;have n0_:=Aside0.mk (blk_below (g:=gb183) (o:=.cells #[.string a0_0,.string a0_1,.int .i64 a0_2,.string a0_3,.string a0_4] 44 (0,0)) (by (with_reducible repeat (first|refine blk_drewN ?_ _|refine blk_drew ?_|refine blk_alloc ?_ _));exact BK183.out) hb);have n1_:=Aside0.mk (below_step (by repeat (first|(with_reducible first|exact HB.out|apply below_alloc|apply pw_below_drewN|apply below_drew1|refine below_set ?_ GE183.out)|exact HB.out)) hb);clear BK183;clear HB;have BK183:=n0_;have HB:=n1_;clear n0_ n1_;(try clear hb);(try clear hb2);(try clear hk);(try clear hi)))
      go_ret
      exact ⟨by first|rfl|(simp [errW_none,errW_some] <;> rfl)|(simp [*,errW_none,errW_some] <;> rfl),by repeat (first|(with_reducible first|exact HB.out|apply below_alloc|apply pw_below_drewN|apply below_drew1|refine below_set ?_ GE183.out)|exact HB.out)⟩

/-! ### target_Show: function 40 -/
def target_Show.f (k : Nat) (a0_0 : ByteArray) (a0_1 : ByteArray) (a0_2 : Int) (a0_3 : ByteArray) (a0_4 : ByteArray) : Option (ByteArray):=(target_Check.f k a0_0 a0_1 a0_2 a0_3 a0_4).bind fun t195 => (if t195 = true then ((target_show.f k a0_0 a0_1 a0_2 a0_3 a0_4).bind fun t196 => (some t196)) else (some (⟨#[]⟩ : ByteArray)))
theorem target_Show.mono : ∀ a0 a1 a2 a3 a4 k,LeO (target_Show.f k a0 a1 a2 a3 a4) (target_Show.f (k + 1) a0 a1 a2 a3 a4):=by
 intro a0 a1 a2 a3 a4 k
 unfold target_Show.f
 repeat' first
   | (with_reducible exact target_Check.mono _ _ _ _ _ _)
   | (with_reducible exact target_show.mono _ _ _ _ _ _)
   | (with_reducible exact LeO.refl _)
   | (with_reducible exact LeO.none _)
   | (with_reducible refine LeO.ite ?_ ?_)
   | (with_reducible refine LeO.bind ?_ (fun _ => ?_))
   | exact target_Check.mono _ _ _ _ _ _
   | exact target_show.mono _ _ _ _ _ _
   | exact LeO.none _
   | refine LeO.ite ?_ ?_
   | refine LeO.bind ?_ (fun _ => ?_)
set_option maxHeartbeats 8000000 in
set_option maxRecDepth 100000 in
theorem target_Show.calls (k : Nat) (a0_0 : ByteArray) (a0_1 : ByteArray) (a0_2 : Int) (a0_3 : ByteArray) (a0_4 : ByteArray) (r : ByteArray) (w : World) (hM_ : Aside0 (LaidW w)) (h : target_Show.f k a0_0 a0_1 a0_2 a0_3 a0_4 = some r) :
  Calls Tryd.prog 40 #[.agg #[.string a0_0,.string a0_1,.int .i64 a0_2,.string a0_3,.string a0_4]] w fun e w' => e = .returned (.string r) ∧ Below w.heap.size w w':=by
 have hu44:=Tryd.underlying44
 have HB:=Aside0.mk (Below.refl w.heap.size w)
 have H : ((target_Check.f k a0_0 a0_1 a0_2 a0_3 a0_4).bind fun t195 => (if t195 = true then ((target_show.f k a0_0 a0_1 a0_2 a0_3 a0_4).bind fun t196 => (some t196)) else (some (⟨#[]⟩ : ByteArray)))) = some r:=h
 clear h
 replace H:=Option.bind_eq_some_iff.mp H
 obtain ⟨t195,A20,H⟩:=H
 replace H : (if t195 = true then ((target_show.f k a0_0 a0_1 a0_2 a0_3 a0_4).bind fun t196 => (some t196)) else (some (⟨#[]⟩ : ByteArray))) = some r:=H
 have A2:=Aside0.mk A20
 clear A20
 by_cases c3 : t195 = true
 ·subst c3
  have H1 : ((target_show.f k a0_0 a0_1 a0_2 a0_3 a0_4).bind fun t196 => (some t196)) = some r:=by rw [if_pos rfl] at H;exact H
  clear H
  have H:=H1
  clear H1
  replace H:=Option.bind_eq_some_iff.mp H
  obtain ⟨t196,A40,H⟩:=H
  replace H : (some t196) = some r:=H
  have A4:=Aside0.mk A40
  clear A40
  obtain rfl:=Option.some.inj H
  go_enter Tryd.func40,Tryd.ntmps40
  go_wp2_with (first|((with_reducible refine gate_dst (N:=1) rfl ?_);refine box_event ?hg (N:=1) ?hd (cs:=#[.string a0_0,.string a0_1,.int .i64 a0_2,.string a0_3,.string a0_4]) (t:=44) ?hr ?_;(case hd => rfl);(case hg => rfl);(case hr => first|(go_simp;done)|(go_simp;rfl));intro gb194 hg w5 hbox hb;have n0_:=Aside0.mk (below_step (by repeat (first|(with_reducible first|exact HB.out|apply below_alloc|apply pw_below_drewN|apply below_drew1)|exact HB.out)) hb);have n1_:=Aside0.mk (hbox);have n2_:=Aside0.mk ((by rw [hg];exact (below_size (by repeat (first|(with_reducible first|exact HB.out|apply below_alloc|apply pw_below_drewN|apply below_drew1)|exact HB.out))) : w.heap.size ≤ gb194));have n3_:=Aside0.mk ((by rw [hg];exact (below_size (by repeat (first|(with_reducible first|exact HB.out|apply below_alloc|apply pw_below_drewN|apply below_drew1)|exact HB.out))) : w.heap.size ≤ gb194));clear HB;have HB:=n0_;have BK194:=n1_;have GW194:=n2_;have GE194:=n3_;clear n0_ n1_ n2_ n3_;clear hb hbox hg;have hcz6_0 : w5.cell? ⟨gb194,0,none⟩ = some (.string a0_0):=(blk_cell BK194.out 0).trans rfl;have hcz6_1 : w5.cell? ⟨gb194,1,none⟩ = some (.string a0_1):=(blk_cell BK194.out 1).trans rfl;have hcz6_2 : w5.cell? ⟨gb194,2,none⟩ = some (.int .i64 a0_2):=(blk_cell BK194.out 2).trans rfl;have hcz6_3 : w5.cell? ⟨gb194,3,none⟩ = some (.string a0_3):=(blk_cell BK194.out 3).trans rfl;have hcz6_4 : w5.cell? ⟨gb194,4,none⟩ = some (.string a0_4):=(blk_cell BK194.out 4).trans rfl;have hfz6_0:=blk_frozen BK194.out 0;have hfz6_1:=blk_frozen BK194.out 1;have hfz6_2:=blk_frozen BK194.out 2;have hfz6_3:=blk_frozen BK194.out 3;have hfz6_4:=blk_frozen BK194.out 4)|((with_reducible refine gate_callee (f:=38) rfl ?_);refine goesL_ (some 4) rfl rfl Tryd.func38 (by kernel_rfl) rfl #[.agg #[.string a0_0,.string a0_1,.int .i64 a0_2,.string a0_3,.string a0_4]] rfl (by (try simp only [List.map_toArray,List.map_cons,List.map_nil]);first|done|rfl|(simp only [List.length_drop,List.length_take];rfl)) ?_;(with_reducible refine (target_Check.calls k a0_0 a0_1 a0_2 a0_3 a0_4 true _ ?side1 A2.out).mono ?_);(case side1 => exact ⟨by repeat (first|(with_reducible exact hM_.out)|(with_reducible exact LaidW.below hM_.out HB.out)|(with_reducible refine LaidW.alloc ?_ _)|(with_reducible refine LaidW.drewN ?_ _)|(with_reducible refine LaidW.drew ?_)|exact LaidW.below hM_.out (by repeat (first|(with_reducible first|exact HB.out|apply below_alloc|apply pw_below_drewN|apply below_drew1|refine below_set ?_ GE194.out)|exact HB.out)))⟩);rintro e w7 ⟨rfl,hb⟩;refine ⟨_,rfl,?_⟩;have n0_:=Aside0.mk (blk_below (g:=gb194) (o:=.cells #[.string a0_0,.string a0_1,.int .i64 a0_2,.string a0_3,.string a0_4] 44 (0,0)) (by (with_reducible repeat (first|refine blk_drewN ?_ _|refine blk_drew ?_|refine blk_alloc ?_ _));exact BK194.out) hb);have n1_:=Aside0.mk (below_step (by repeat (first|(with_reducible first|exact HB.out|apply below_alloc|apply pw_below_drewN|apply below_drew1|refine below_set ?_ GE194.out)|exact HB.out)) hb);clear BK194;clear HB;have BK194:=n0_;have HB:=n1_;clear n0_ n1_;(try clear hb);(try clear hb2);(try clear hk);(try clear hi);have hcz8_0 : w7.cell? ⟨gb194,0,none⟩ = some (.string a0_0):=(blk_cell BK194.out 0).trans rfl;have hcz8_1 : w7.cell? ⟨gb194,1,none⟩ = some (.string a0_1):=(blk_cell BK194.out 1).trans rfl;have hcz8_2 : w7.cell? ⟨gb194,2,none⟩ = some (.int .i64 a0_2):=(blk_cell BK194.out 2).trans rfl;have hcz8_3 : w7.cell? ⟨gb194,3,none⟩ = some (.string a0_3):=(blk_cell BK194.out 3).trans rfl;have hcz8_4 : w7.cell? ⟨gb194,4,none⟩ = some (.string a0_4):=(blk_cell BK194.out 4).trans rfl;have hfz8_0:=blk_frozen BK194.out 0;have hfz8_1:=blk_frozen BK194.out 1;have hfz8_2:=blk_frozen BK194.out 2;have hfz8_3:=blk_frozen BK194.out 3;have hfz8_4:=blk_frozen BK194.out 4)|((with_reducible refine gate_callee (f:=54) rfl ?_);refine goesL_ (some 7) rfl rfl Tryd.func54 (by kernel_rfl) rfl #[.agg #[.string a0_0,.string a0_1,.int .i64 a0_2,.string a0_3,.string a0_4]] rfl (by (try simp only [List.map_toArray,List.map_cons,List.map_nil]);first|done|rfl|(simp only [List.length_drop,List.length_take];rfl)) ?_;(with_reducible refine (target_show.calls k a0_0 a0_1 a0_2 a0_3 a0_4 t196 _ ?side1 A4.out).mono ?_);(case side1 => exact ⟨by repeat (first|(with_reducible exact hM_.out)|(with_reducible exact LaidW.below hM_.out HB.out)|(with_reducible refine LaidW.alloc ?_ _)|(with_reducible refine LaidW.drewN ?_ _)|(with_reducible refine LaidW.drew ?_)|exact LaidW.below hM_.out (by repeat (first|(with_reducible first|exact HB.out|apply below_alloc|apply pw_below_drewN|apply below_drew1|refine below_set ?_ GE194.out)|exact HB.out)))⟩);rintro e w9 ⟨rfl,hb⟩;refine ⟨_,rfl,?_⟩;have n0_:=Aside0.mk (blk_below (g:=gb194) (o:=.cells #[.string a0_0,.string a0_1,.int .i64 a0_2,.string a0_3,.string a0_4] 44 (0,0)) (by (with_reducible repeat (first|refine blk_drewN ?_ _|refine blk_drew ?_|refine blk_alloc ?_ _));exact BK194.out) hb);have n1_:=Aside0.mk (below_step (by repeat (first|(with_reducible first|exact HB.out|apply below_alloc|apply pw_below_drewN|apply below_drew1|refine below_set ?_ GE194.out)|exact HB.out)) hb);clear BK194;clear HB;have BK194:=n0_;have HB:=n1_;clear n0_ n1_;(try clear hb);(try clear hb2);(try clear hk);(try clear hi)))
  go_ret
  exact ⟨by first|rfl|(simp [errW_none,errW_some] <;> rfl)|(simp [*,errW_none,errW_some] <;> rfl),by repeat (first|(with_reducible first|exact HB.out|apply below_alloc|apply pw_below_drewN|apply below_drew1|refine below_set ?_ GE194.out)|exact HB.out)⟩
 ·replace c3:=Bool.eq_false_iff.mpr c3
  subst c3
  have H1 : (some (⟨#[]⟩ : ByteArray)) = some r:=by rw [if_neg (show ¬ (false = true) by decide)] at H;exact H
  clear H
  have H:=H1
  clear H1
  obtain rfl:=Option.some.inj H
  go_enter Tryd.func40,Tryd.ntmps40
  go_wp2_with (first|((with_reducible refine gate_dst (N:=1) rfl ?_);refine box_event ?hg (N:=1) ?hd (cs:=#[.string a0_0,.string a0_1,.int .i64 a0_2,.string a0_3,.string a0_4]) (t:=44) ?hr ?_;(case hd => rfl);(case hg => rfl);(case hr => first|(go_simp;done)|(go_simp;rfl));intro gb194 hg w10 hbox hb;have n0_:=Aside0.mk (below_step (by repeat (first|(with_reducible first|exact HB.out|apply below_alloc|apply pw_below_drewN|apply below_drew1)|exact HB.out)) hb);have n1_:=Aside0.mk (hbox);have n2_:=Aside0.mk ((by rw [hg];exact (below_size (by repeat (first|(with_reducible first|exact HB.out|apply below_alloc|apply pw_below_drewN|apply below_drew1)|exact HB.out))) : w.heap.size ≤ gb194));have n3_:=Aside0.mk ((by rw [hg];exact (below_size (by repeat (first|(with_reducible first|exact HB.out|apply below_alloc|apply pw_below_drewN|apply below_drew1)|exact HB.out))) : w.heap.size ≤ gb194));clear HB;have HB:=n0_;have BK194:=n1_;have GW194:=n2_;have GE194:=n3_;clear n0_ n1_ n2_ n3_;clear hb hbox hg;have hcz11_0 : w10.cell? ⟨gb194,0,none⟩ = some (.string a0_0):=(blk_cell BK194.out 0).trans rfl;have hcz11_1 : w10.cell? ⟨gb194,1,none⟩ = some (.string a0_1):=(blk_cell BK194.out 1).trans rfl;have hcz11_2 : w10.cell? ⟨gb194,2,none⟩ = some (.int .i64 a0_2):=(blk_cell BK194.out 2).trans rfl;have hcz11_3 : w10.cell? ⟨gb194,3,none⟩ = some (.string a0_3):=(blk_cell BK194.out 3).trans rfl;have hcz11_4 : w10.cell? ⟨gb194,4,none⟩ = some (.string a0_4):=(blk_cell BK194.out 4).trans rfl;have hfz11_0:=blk_frozen BK194.out 0;have hfz11_1:=blk_frozen BK194.out 1;have hfz11_2:=blk_frozen BK194.out 2;have hfz11_3:=blk_frozen BK194.out 3;have hfz11_4:=blk_frozen BK194.out 4)|((with_reducible refine gate_callee (f:=38) rfl ?_);refine goesL_ (some 4) rfl rfl Tryd.func38 (by kernel_rfl) rfl #[.agg #[.string a0_0,.string a0_1,.int .i64 a0_2,.string a0_3,.string a0_4]] rfl (by (try simp only [List.map_toArray,List.map_cons,List.map_nil]);first|done|rfl|(simp only [List.length_drop,List.length_take];rfl)) ?_;(with_reducible refine (target_Check.calls k a0_0 a0_1 a0_2 a0_3 a0_4 false _ ?side1 A2.out).mono ?_);(case side1 => exact ⟨by repeat (first|(with_reducible exact hM_.out)|(with_reducible exact LaidW.below hM_.out HB.out)|(with_reducible refine LaidW.alloc ?_ _)|(with_reducible refine LaidW.drewN ?_ _)|(with_reducible refine LaidW.drew ?_)|exact LaidW.below hM_.out (by repeat (first|(with_reducible first|exact HB.out|apply below_alloc|apply pw_below_drewN|apply below_drew1|refine below_set ?_ GE194.out)|exact HB.out)))⟩);rintro e w12 ⟨rfl,hb⟩;refine ⟨_,rfl,?_⟩;have n0_:=Aside0.mk (blk_below (g:=gb194) (o:=.cells #[.string a0_0,.string a0_1,.int .i64 a0_2,.string a0_3,.string a0_4] 44 (0,0)) (by (with_reducible repeat (first|refine blk_drewN ?_ _|refine blk_drew ?_|refine blk_alloc ?_ _));exact BK194.out) hb);have n1_:=Aside0.mk (below_step (by repeat (first|(with_reducible first|exact HB.out|apply below_alloc|apply pw_below_drewN|apply below_drew1|refine below_set ?_ GE194.out)|exact HB.out)) hb);clear BK194;clear HB;have BK194:=n0_;have HB:=n1_;clear n0_ n1_;(try clear hb);(try clear hb2);(try clear hk);(try clear hi)))
  go_ret
  exact ⟨by first|rfl|(simp [errW_none,errW_some] <;> rfl)|(simp [*,errW_none,errW_some] <;> rfl),by repeat (first|(with_reducible first|exact HB.out|apply below_alloc|apply pw_below_drewN|apply below_drew1|refine below_set ?_ GE194.out)|exact HB.out)⟩

/-! ### lockkeeperlaw4_awake: function 33 -/
def lockkeeperlaw4_awake.f (k : Nat)  : Option (Bool):=(target_Parse.f k (⟨#[72,84,84,80,58,47,47,104,63,113,35,102]⟩ : ByteArray)).bind fun bt197 => (if bt197.2.2.2.2.2 = 0 then ((target_Show.f k bt197.1 bt197.2.1 bt197.2.2.1 bt197.2.2.2.1 bt197.2.2.2.2.1).bind fun t204 => (if t204.toList = ([104,116,116,112,58,47,47,104,47,63,113] : List UInt8) then ((target_Clean.f k (⟨#[47,97,47,46,47,98,47,46,46,47,99,47,46,46]⟩ : ByteArray)).bind fun t205 => (if t205.toList = ([47,97,47] : List UInt8) then ((target_Clean.f k (⟨#[47,46,46,47,120]⟩ : ByteArray)).bind fun t206 => (if t206.toList = ([47,120] : List UInt8) then ((target_Clean.f k (⟨#[]⟩ : ByteArray)).bind fun t207 => (some (t207.toList == ([47] : List UInt8)))) else (some false))) else (some false))) else (some false))) else (some false))
theorem lockkeeperlaw4_awake.mono : ∀ k,LeO (lockkeeperlaw4_awake.f k ) (lockkeeperlaw4_awake.f (k + 1) ):=by
 intro  k
 unfold lockkeeperlaw4_awake.f
 repeat' first
   | (with_reducible exact target_Clean.mono _ _)
   | (with_reducible exact target_Parse.mono _ _)
   | (with_reducible exact target_Show.mono _ _ _ _ _ _)
   | (with_reducible exact LeO.refl _)
   | (with_reducible exact LeO.none _)
   | (with_reducible refine LeO.ite ?_ ?_)
   | (with_reducible refine LeO.bind ?_ (fun _ => ?_))
   | exact target_Clean.mono _ _
   | exact target_Parse.mono _ _
   | exact target_Show.mono _ _ _ _ _ _
   | exact LeO.none _
   | refine LeO.ite ?_ ?_
   | refine LeO.bind ?_ (fun _ => ?_)
set_option maxHeartbeats 8000000 in
set_option maxRecDepth 100000 in
theorem lockkeeperlaw4_awake.calls (k : Nat)  (r : Bool) (w : World) (hM_ : Aside0 (LaidW w)) (h : lockkeeperlaw4_awake.f k  = some r) :
  Calls Tryd.prog 33 #[] w fun e w' => e = .returned (.bool r) ∧ Below w.heap.size w w':=by
 have hu44:=Tryd.underlying44
 have HB:=Aside0.mk (Below.refl w.heap.size w)
 have H : ((target_Parse.f k (⟨#[72,84,84,80,58,47,47,104,63,113,35,102]⟩ : ByteArray)).bind fun bt197 => (if bt197.2.2.2.2.2 = 0 then ((target_Show.f k bt197.1 bt197.2.1 bt197.2.2.1 bt197.2.2.2.1 bt197.2.2.2.2.1).bind fun t204 => (if t204.toList = ([104,116,116,112,58,47,47,104,47,63,113] : List UInt8) then ((target_Clean.f k (⟨#[47,97,47,46,47,98,47,46,46,47,99,47,46,46]⟩ : ByteArray)).bind fun t205 => (if t205.toList = ([47,97,47] : List UInt8) then ((target_Clean.f k (⟨#[47,46,46,47,120]⟩ : ByteArray)).bind fun t206 => (if t206.toList = ([47,120] : List UInt8) then ((target_Clean.f k (⟨#[]⟩ : ByteArray)).bind fun t207 => (some (t207.toList == ([47] : List UInt8)))) else (some false))) else (some false))) else (some false))) else (some false))) = some r:=h
 clear h
 replace H:=Option.bind_eq_some_iff.mp H
 obtain ⟨⟨t197,t198,t199,t200,t201,t202⟩,A10,H⟩:=H
 replace H : (if t202 = 0 then ((target_Show.f k t197 t198 t199 t200 t201).bind fun t204 => (if t204.toList = ([104,116,116,112,58,47,47,104,47,63,113] : List UInt8) then ((target_Clean.f k (⟨#[47,97,47,46,47,98,47,46,46,47,99,47,46,46]⟩ : ByteArray)).bind fun t205 => (if t205.toList = ([47,97,47] : List UInt8) then ((target_Clean.f k (⟨#[47,46,46,47,120]⟩ : ByteArray)).bind fun t206 => (if t206.toList = ([47,120] : List UInt8) then ((target_Clean.f k (⟨#[]⟩ : ByteArray)).bind fun t207 => (some (t207.toList == ([47] : List UInt8)))) else (some false))) else (some false))) else (some false))) else (some false)) = some r:=H
 have A1:=Aside0.mk A10
 clear A10
 by_cases c2 : t202 = 0
 ·rw [if_pos c2] at H
  have c2b0 : (t202 == 0) = true:=beq_iff_eq.mpr c2
  have c2b1 : (t202 != 0) = false:=bne_eq_false_iff_eq.mpr c2
  clear c2
  replace H:=Option.bind_eq_some_iff.mp H
  obtain ⟨t204,A30,H⟩:=H
  replace H : (if t204.toList = ([104,116,116,112,58,47,47,104,47,63,113] : List UInt8) then ((target_Clean.f k (⟨#[47,97,47,46,47,98,47,46,46,47,99,47,46,46]⟩ : ByteArray)).bind fun t205 => (if t205.toList = ([47,97,47] : List UInt8) then ((target_Clean.f k (⟨#[47,46,46,47,120]⟩ : ByteArray)).bind fun t206 => (if t206.toList = ([47,120] : List UInt8) then ((target_Clean.f k (⟨#[]⟩ : ByteArray)).bind fun t207 => (some (t207.toList == ([47] : List UInt8)))) else (some false))) else (some false))) else (some false)) = some r:=H
  have A3:=Aside0.mk A30
  clear A30
  by_cases c4 : t204.toList = ([104,116,116,112,58,47,47,104,47,63,113] : List UInt8)
  ·rw [if_pos c4] at H
   have c4b0 : (t204.toList == ([104,116,116,112,58,47,47,104,47,63,113] : List UInt8)) = true:=beq_iff_eq.mpr c4
   have c4b1 : (t204.toList != ([104,116,116,112,58,47,47,104,47,63,113] : List UInt8)) = false:=bne_eq_false_iff_eq.mpr c4
   clear c4
   replace H:=Option.bind_eq_some_iff.mp H
   obtain ⟨t205,A50,H⟩:=H
   replace H : (if t205.toList = ([47,97,47] : List UInt8) then ((target_Clean.f k (⟨#[47,46,46,47,120]⟩ : ByteArray)).bind fun t206 => (if t206.toList = ([47,120] : List UInt8) then ((target_Clean.f k (⟨#[]⟩ : ByteArray)).bind fun t207 => (some (t207.toList == ([47] : List UInt8)))) else (some false))) else (some false)) = some r:=H
   have A5:=Aside0.mk A50
   clear A50
   by_cases c6 : t205.toList = ([47,97,47] : List UInt8)
   ·rw [if_pos c6] at H
    have c6b0 : (t205.toList == ([47,97,47] : List UInt8)) = true:=beq_iff_eq.mpr c6
    have c6b1 : (t205.toList != ([47,97,47] : List UInt8)) = false:=bne_eq_false_iff_eq.mpr c6
    clear c6
    replace H:=Option.bind_eq_some_iff.mp H
    obtain ⟨t206,A70,H⟩:=H
    replace H : (if t206.toList = ([47,120] : List UInt8) then ((target_Clean.f k (⟨#[]⟩ : ByteArray)).bind fun t207 => (some (t207.toList == ([47] : List UInt8)))) else (some false)) = some r:=H
    have A7:=Aside0.mk A70
    clear A70
    by_cases c8 : t206.toList = ([47,120] : List UInt8)
    ·rw [if_pos c8] at H
     have c8b0 : (t206.toList == ([47,120] : List UInt8)) = true:=beq_iff_eq.mpr c8
     have c8b1 : (t206.toList != ([47,120] : List UInt8)) = false:=bne_eq_false_iff_eq.mpr c8
     clear c8
     replace H:=Option.bind_eq_some_iff.mp H
     obtain ⟨t207,A90,H⟩:=H
     replace H : (some (t207.toList == ([47] : List UInt8))) = some r:=H
     have A9:=Aside0.mk A90
     clear A90
     obtain rfl:=Option.some.inj H
     go_enter Tryd.func33,Tryd.ntmps33
     go_wp2_with (first|((with_reducible refine gate_callee (f:=34) rfl ?_);refine goesL_ (some 4) rfl rfl Tryd.func34 (by kernel_rfl) rfl #[.string (⟨#[72,84,84,80,58,47,47,104,63,113,35,102]⟩ : ByteArray)] rfl (by (try simp only [List.map_toArray,List.map_cons,List.map_nil]);first|done|rfl|(simp only [List.length_drop,List.length_take];rfl)) ?_;(with_reducible refine (target_Parse.calls k (⟨#[72,84,84,80,58,47,47,104,63,113,35,102]⟩ : ByteArray) t197 t198 t199 t200 t201 t202 _ ?side1 A1.out).mono ?_);(case side1 => exact ⟨by repeat (first|(with_reducible exact hM_.out)|(with_reducible exact LaidW.below hM_.out HB.out)|(with_reducible refine LaidW.alloc ?_ _)|(with_reducible refine LaidW.drewN ?_ _)|(with_reducible refine LaidW.drew ?_)|exact LaidW.below hM_.out (by repeat (first|(with_reducible first|exact HB.out|apply below_alloc|apply pw_below_drewN|apply below_drew1)|exact HB.out)))⟩);rintro e w10 ⟨rfl,hb⟩;refine ⟨_,rfl,?_⟩;have n0_:=Aside0.mk (below_step (by repeat (first|(with_reducible first|exact HB.out|apply below_alloc|apply pw_below_drewN|apply below_drew1)|exact HB.out)) hb);clear HB;have HB:=n0_;clear n0_;(try clear hb);(try clear hb2);(try clear hk);(try clear hi))|((with_reducible refine gate_dst (N:=1) rfl ?_);refine box_event ?hg (N:=1) ?hd (cs:=#[.string (⟨#[]⟩ : ByteArray),.string (⟨#[]⟩ : ByteArray),.int .i64 0,.string (⟨#[]⟩ : ByteArray),.string (⟨#[]⟩ : ByteArray)]) (t:=44) ?hr ?_;(case hd => rfl);(case hg => rfl);(case hr => first|(go_simp;done)|(go_simp;rfl));intro gb203 hg w11 hbox hb;have n0_:=Aside0.mk (below_step (by repeat (first|(with_reducible first|exact HB.out|apply below_alloc|apply pw_below_drewN|apply below_drew1)|exact HB.out)) hb);have n1_:=Aside0.mk (hbox);have n2_:=Aside0.mk ((by rw [hg];exact (below_size (by repeat (first|(with_reducible first|exact HB.out|apply below_alloc|apply pw_below_drewN|apply below_drew1)|exact HB.out))) : w.heap.size ≤ gb203));have n3_:=Aside0.mk ((by rw [hg];exact (below_size (by repeat (first|(with_reducible first|exact HB.out|apply below_alloc|apply pw_below_drewN|apply below_drew1)|exact HB.out))) : w.heap.size ≤ gb203));clear HB;have HB:=n0_;have BK203:=n1_;have GW203:=n2_;have GE203:=n3_;clear n0_ n1_ n2_ n3_;clear hb hbox hg;have hcz12_0 : w11.cell? ⟨gb203,0,none⟩ = some (.string (⟨#[]⟩ : ByteArray)):=(blk_cell BK203.out 0).trans rfl;have hcz12_1 : w11.cell? ⟨gb203,1,none⟩ = some (.string (⟨#[]⟩ : ByteArray)):=(blk_cell BK203.out 1).trans rfl;have hcz12_2 : w11.cell? ⟨gb203,2,none⟩ = some (.int .i64 0):=(blk_cell BK203.out 2).trans rfl;have hcz12_3 : w11.cell? ⟨gb203,3,none⟩ = some (.string (⟨#[]⟩ : ByteArray)):=(blk_cell BK203.out 3).trans rfl;have hcz12_4 : w11.cell? ⟨gb203,4,none⟩ = some (.string (⟨#[]⟩ : ByteArray)):=(blk_cell BK203.out 4).trans rfl;have hfz12_0:=blk_frozen BK203.out 0;have hfz12_1:=blk_frozen BK203.out 1;have hfz12_2:=blk_frozen BK203.out 2;have hfz12_3:=blk_frozen BK203.out 3;have hfz12_4:=blk_frozen BK203.out 4)|(go_at_call 40;(with_reducible refine (target_Show.calls k t197 t198 t199 t200 t201 t204 _ ?side1 A3.out).mono ?_);(case side1 => exact ⟨by repeat (first|(with_reducible exact hM_.out)|(with_reducible exact LaidW.below hM_.out HB.out)|(with_reducible refine LaidW.alloc ?_ _)|(with_reducible refine LaidW.drewN ?_ _)|(with_reducible refine LaidW.drew ?_)|exact LaidW.below hM_.out (by repeat (first|(with_reducible first|exact HB.out|apply below_alloc|apply pw_below_drewN|apply below_drew1|refine below_set ?_ GE203.out)|exact HB.out)))⟩);rintro e w13 ⟨rfl,hb⟩;have n0_:=Aside0.mk (blk_below (g:=gb203) (o:=.cells #[.string t197,.string t198,.int .i64 t199,.string t200,.string t201] 44 (0,0)) (by (with_reducible repeat (first|refine blk_drewN ?_ _|refine blk_drew ?_|refine blk_alloc ?_ _));refine blk_put (cs:=#[.string t197,.string t198,.int .i64 t199,.string t200,.string (⟨#[]⟩ : ByteArray)]) ?_ 4 _ rfl;(with_reducible repeat (first|refine blk_drewN ?_ _|refine blk_drew ?_|refine blk_alloc ?_ _));refine blk_put (cs:=#[.string t197,.string t198,.int .i64 t199,.string (⟨#[]⟩ : ByteArray),.string (⟨#[]⟩ : ByteArray)]) ?_ 3 _ rfl;(with_reducible repeat (first|refine blk_drewN ?_ _|refine blk_drew ?_|refine blk_alloc ?_ _));refine blk_put (cs:=#[.string t197,.string t198,.int .i64 0,.string (⟨#[]⟩ : ByteArray),.string (⟨#[]⟩ : ByteArray)]) ?_ 2 _ rfl;(with_reducible repeat (first|refine blk_drewN ?_ _|refine blk_drew ?_|refine blk_alloc ?_ _));refine blk_put (cs:=#[.string t197,.string (⟨#[]⟩ : ByteArray),.int .i64 0,.string (⟨#[]⟩ : ByteArray),.string (⟨#[]⟩ : ByteArray)]) ?_ 1 _ rfl;(with_reducible repeat (first|refine blk_drewN ?_ _|refine blk_drew ?_|refine blk_alloc ?_ _));refine blk_put (cs:=#[.string (⟨#[]⟩ : ByteArray),.string (⟨#[]⟩ : ByteArray),.int .i64 0,.string (⟨#[]⟩ : ByteArray),.string (⟨#[]⟩ : ByteArray)]) ?_ 0 _ rfl;(with_reducible repeat (first|refine blk_drewN ?_ _|refine blk_drew ?_|refine blk_alloc ?_ _));exact BK203.out) hb);have n1_:=Aside0.mk (below_step (by repeat (first|(with_reducible first|exact HB.out|apply below_alloc|apply pw_below_drewN|apply below_drew1|refine below_set ?_ GE203.out)|exact HB.out)) hb);clear BK203;clear HB;have BK203:=n0_;have HB:=n1_;clear n0_ n1_;(try clear hb);(try clear hb2);(try clear hk);(try clear hi))|(go_at_call 36;(with_reducible refine (target_Clean.calls k (⟨#[47,97,47,46,47,98,47,46,46,47,99,47,46,46]⟩ : ByteArray) t205 _ A5.out).mono ?_);rintro e w14 ⟨rfl,hb⟩;have n0_:=Aside0.mk (blk_below (g:=gb203) (o:=.cells #[.string t197,.string t198,.int .i64 t199,.string t200,.string t201] 44 (0,0)) (by (with_reducible repeat (first|refine blk_drewN ?_ _|refine blk_drew ?_|refine blk_alloc ?_ _));exact BK203.out) hb);have n1_:=Aside0.mk (below_step (by repeat (first|(with_reducible first|exact HB.out|apply below_alloc|apply pw_below_drewN|apply below_drew1|refine below_set ?_ GE203.out)|exact HB.out)) hb);clear BK203;clear HB;have BK203:=n0_;have HB:=n1_;clear n0_ n1_;(try clear hb);(try clear hb2);(try clear hk);(try clear hi))|(go_at_call 36;(with_reducible refine (target_Clean.calls k (⟨#[47,46,46,47,120]⟩ : ByteArray) t206 _ A7.out).mono ?_);rintro e w15 ⟨rfl,hb⟩;have n0_:=Aside0.mk (blk_below (g:=gb203) (o:=.cells #[.string t197,.string t198,.int .i64 t199,.string t200,.string t201] 44 (0,0)) (by (with_reducible repeat (first|refine blk_drewN ?_ _|refine blk_drew ?_|refine blk_alloc ?_ _));exact BK203.out) hb);have n1_:=Aside0.mk (below_step (by repeat (first|(with_reducible first|exact HB.out|apply below_alloc|apply pw_below_drewN|apply below_drew1|refine below_set ?_ GE203.out)|exact HB.out)) hb);clear BK203;clear HB;have BK203:=n0_;have HB:=n1_;clear n0_ n1_;(try clear hb);(try clear hb2);(try clear hk);(try clear hi))|(go_at_call 36;(with_reducible refine (target_Clean.calls k (⟨#[]⟩ : ByteArray) t207 _ A9.out).mono ?_);rintro e w16 ⟨rfl,hb⟩;have n0_:=Aside0.mk (blk_below (g:=gb203) (o:=.cells #[.string t197,.string t198,.int .i64 t199,.string t200,.string t201] 44 (0,0)) (by (with_reducible repeat (first|refine blk_drewN ?_ _|refine blk_drew ?_|refine blk_alloc ?_ _));exact BK203.out) hb);have n1_:=Aside0.mk (below_step (by repeat (first|(with_reducible first|exact HB.out|apply below_alloc|apply pw_below_drewN|apply below_drew1|refine below_set ?_ GE203.out)|exact HB.out)) hb);clear BK203;clear HB;have BK203:=n0_;have HB:=n1_;clear n0_ n1_;(try clear hb);(try clear hb2);(try clear hk);(try clear hi)))
     go_ret
     exact ⟨by first|rfl|(simp [errW_none,errW_some] <;> rfl)|(simp [*,errW_none,errW_some] <;> rfl),by repeat (first|(with_reducible first|exact HB.out|apply below_alloc|apply pw_below_drewN|apply below_drew1|refine below_set ?_ GE203.out)|exact HB.out)⟩
    ·rw [if_neg c8] at H
     have c8b0 : (t206.toList == ([47,120] : List UInt8)) = false:=beq_eq_false_iff_ne.mpr c8
     have c8b1 : (t206.toList != ([47,120] : List UInt8)) = true:=bne_iff_ne.mpr c8
     obtain rfl:=Option.some.inj H
     go_enter Tryd.func33,Tryd.ntmps33
     go_wp2_with (first|((with_reducible refine gate_callee (f:=34) rfl ?_);refine goesL_ (some 4) rfl rfl Tryd.func34 (by kernel_rfl) rfl #[.string (⟨#[72,84,84,80,58,47,47,104,63,113,35,102]⟩ : ByteArray)] rfl (by (try simp only [List.map_toArray,List.map_cons,List.map_nil]);first|done|rfl|(simp only [List.length_drop,List.length_take];rfl)) ?_;(with_reducible refine (target_Parse.calls k (⟨#[72,84,84,80,58,47,47,104,63,113,35,102]⟩ : ByteArray) t197 t198 t199 t200 t201 t202 _ ?side1 A1.out).mono ?_);(case side1 => exact ⟨by repeat (first|(with_reducible exact hM_.out)|(with_reducible exact LaidW.below hM_.out HB.out)|(with_reducible refine LaidW.alloc ?_ _)|(with_reducible refine LaidW.drewN ?_ _)|(with_reducible refine LaidW.drew ?_)|exact LaidW.below hM_.out (by repeat (first|(with_reducible first|exact HB.out|apply below_alloc|apply pw_below_drewN|apply below_drew1)|exact HB.out)))⟩);rintro e w17 ⟨rfl,hb⟩;refine ⟨_,rfl,?_⟩;have n0_:=Aside0.mk (below_step (by repeat (first|(with_reducible first|exact HB.out|apply below_alloc|apply pw_below_drewN|apply below_drew1)|exact HB.out)) hb);clear HB;have HB:=n0_;clear n0_;(try clear hb);(try clear hb2);(try clear hk);(try clear hi))|((with_reducible refine gate_dst (N:=1) rfl ?_);refine box_event ?hg (N:=1) ?hd (cs:=#[.string (⟨#[]⟩ : ByteArray),.string (⟨#[]⟩ : ByteArray),.int .i64 0,.string (⟨#[]⟩ : ByteArray),.string (⟨#[]⟩ : ByteArray)]) (t:=44) ?hr ?_;(case hd => rfl);(case hg => rfl);(case hr => first|(go_simp;done)|(go_simp;rfl));intro gb203 hg w18 hbox hb;have n0_:=Aside0.mk (below_step (by repeat (first|(with_reducible first|exact HB.out|apply below_alloc|apply pw_below_drewN|apply below_drew1)|exact HB.out)) hb);have n1_:=Aside0.mk (hbox);have n2_:=Aside0.mk ((by rw [hg];exact (below_size (by repeat (first|(with_reducible first|exact HB.out|apply below_alloc|apply pw_below_drewN|apply below_drew1)|exact HB.out))) : w.heap.size ≤ gb203));have n3_:=Aside0.mk ((by rw [hg];exact (below_size (by repeat (first|(with_reducible first|exact HB.out|apply below_alloc|apply pw_below_drewN|apply below_drew1)|exact HB.out))) : w.heap.size ≤ gb203));clear HB;have HB:=n0_;have BK203:=n1_;have GW203:=n2_;have GE203:=n3_;clear n0_ n1_ n2_ n3_;clear hb hbox hg;have hcz19_0 : w18.cell? ⟨gb203,0,none⟩ = some (.string (⟨#[]⟩ : ByteArray)):=(blk_cell BK203.out 0).trans rfl;have hcz19_1 : w18.cell? ⟨gb203,1,none⟩ = some (.string (⟨#[]⟩ : ByteArray)):=(blk_cell BK203.out 1).trans rfl;have hcz19_2 : w18.cell? ⟨gb203,2,none⟩ = some (.int .i64 0):=(blk_cell BK203.out 2).trans rfl;have hcz19_3 : w18.cell? ⟨gb203,3,none⟩ = some (.string (⟨#[]⟩ : ByteArray)):=(blk_cell BK203.out 3).trans rfl;have hcz19_4 : w18.cell? ⟨gb203,4,none⟩ = some (.string (⟨#[]⟩ : ByteArray)):=(blk_cell BK203.out 4).trans rfl;have hfz19_0:=blk_frozen BK203.out 0;have hfz19_1:=blk_frozen BK203.out 1;have hfz19_2:=blk_frozen BK203.out 2;have hfz19_3:=blk_frozen BK203.out 3;have hfz19_4:=blk_frozen BK203.out 4)|(go_at_call 40;(with_reducible refine (target_Show.calls k t197 t198 t199 t200 t201 t204 _ ?side1 A3.out).mono ?_);(case side1 => exact ⟨by repeat (first|(with_reducible exact hM_.out)|(with_reducible exact LaidW.below hM_.out HB.out)|(with_reducible refine LaidW.alloc ?_ _)|(with_reducible refine LaidW.drewN ?_ _)|(with_reducible refine LaidW.drew ?_)|exact LaidW.below hM_.out (by repeat (first|(with_reducible first|exact HB.out|apply below_alloc|apply pw_below_drewN|apply below_drew1|refine below_set ?_ GE203.out)|exact HB.out)))⟩);rintro e w20 ⟨rfl,hb⟩;have n0_:=Aside0.mk (blk_below (g:=gb203) (o:=.cells #[.string t197,.string t198,.int .i64 t199,.string t200,.string t201] 44 (0,0)) (by (with_reducible repeat (first|refine blk_drewN ?_ _|refine blk_drew ?_|refine blk_alloc ?_ _));refine blk_put (cs:=#[.string t197,.string t198,.int .i64 t199,.string t200,.string (⟨#[]⟩ : ByteArray)]) ?_ 4 _ rfl;(with_reducible repeat (first|refine blk_drewN ?_ _|refine blk_drew ?_|refine blk_alloc ?_ _));refine blk_put (cs:=#[.string t197,.string t198,.int .i64 t199,.string (⟨#[]⟩ : ByteArray),.string (⟨#[]⟩ : ByteArray)]) ?_ 3 _ rfl;(with_reducible repeat (first|refine blk_drewN ?_ _|refine blk_drew ?_|refine blk_alloc ?_ _));refine blk_put (cs:=#[.string t197,.string t198,.int .i64 0,.string (⟨#[]⟩ : ByteArray),.string (⟨#[]⟩ : ByteArray)]) ?_ 2 _ rfl;(with_reducible repeat (first|refine blk_drewN ?_ _|refine blk_drew ?_|refine blk_alloc ?_ _));refine blk_put (cs:=#[.string t197,.string (⟨#[]⟩ : ByteArray),.int .i64 0,.string (⟨#[]⟩ : ByteArray),.string (⟨#[]⟩ : ByteArray)]) ?_ 1 _ rfl;(with_reducible repeat (first|refine blk_drewN ?_ _|refine blk_drew ?_|refine blk_alloc ?_ _));refine blk_put (cs:=#[.string (⟨#[]⟩ : ByteArray),.string (⟨#[]⟩ : ByteArray),.int .i64 0,.string (⟨#[]⟩ : ByteArray),.string (⟨#[]⟩ : ByteArray)]) ?_ 0 _ rfl;(with_reducible repeat (first|refine blk_drewN ?_ _|refine blk_drew ?_|refine blk_alloc ?_ _));exact BK203.out) hb);have n1_:=Aside0.mk (below_step (by repeat (first|(with_reducible first|exact HB.out|apply below_alloc|apply pw_below_drewN|apply below_drew1|refine below_set ?_ GE203.out)|exact HB.out)) hb);clear BK203;clear HB;have BK203:=n0_;have HB:=n1_;clear n0_ n1_;(try clear hb);(try clear hb2);(try clear hk);(try clear hi))|(go_at_call 36;(with_reducible refine (target_Clean.calls k (⟨#[47,97,47,46,47,98,47,46,46,47,99,47,46,46]⟩ : ByteArray) t205 _ A5.out).mono ?_);rintro e w21 ⟨rfl,hb⟩;have n0_:=Aside0.mk (blk_below (g:=gb203) (o:=.cells #[.string t197,.string t198,.int .i64 t199,.string t200,.string t201] 44 (0,0)) (by (with_reducible repeat (first|refine blk_drewN ?_ _|refine blk_drew ?_|refine blk_alloc ?_ _));exact BK203.out) hb);have n1_:=Aside0.mk (below_step (by repeat (first|(with_reducible first|exact HB.out|apply below_alloc|apply pw_below_drewN|apply below_drew1|refine below_set ?_ GE203.out)|exact HB.out)) hb);clear BK203;clear HB;have BK203:=n0_;have HB:=n1_;clear n0_ n1_;(try clear hb);(try clear hb2);(try clear hk);(try clear hi))|(go_at_call 36;(with_reducible refine (target_Clean.calls k (⟨#[47,46,46,47,120]⟩ : ByteArray) t206 _ A7.out).mono ?_);rintro e w22 ⟨rfl,hb⟩;have n0_:=Aside0.mk (blk_below (g:=gb203) (o:=.cells #[.string t197,.string t198,.int .i64 t199,.string t200,.string t201] 44 (0,0)) (by (with_reducible repeat (first|refine blk_drewN ?_ _|refine blk_drew ?_|refine blk_alloc ?_ _));exact BK203.out) hb);have n1_:=Aside0.mk (below_step (by repeat (first|(with_reducible first|exact HB.out|apply below_alloc|apply pw_below_drewN|apply below_drew1|refine below_set ?_ GE203.out)|exact HB.out)) hb);clear BK203;clear HB;have BK203:=n0_;have HB:=n1_;clear n0_ n1_;(try clear hb);(try clear hb2);(try clear hk);(try clear hi)))
     go_ret
     exact ⟨by first|rfl|(simp [errW_none,errW_some] <;> rfl)|(simp [*,errW_none,errW_some] <;> rfl),by repeat (first|(with_reducible first|exact HB.out|apply below_alloc|apply pw_below_drewN|apply below_drew1|refine below_set ?_ GE203.out)|exact HB.out)⟩
   ·rw [if_neg c6] at H
    have c6b0 : (t205.toList == ([47,97,47] : List UInt8)) = false:=beq_eq_false_iff_ne.mpr c6
    have c6b1 : (t205.toList != ([47,97,47] : List UInt8)) = true:=bne_iff_ne.mpr c6
    obtain rfl:=Option.some.inj H
    go_enter Tryd.func33,Tryd.ntmps33
    go_wp2_with (first|((with_reducible refine gate_callee (f:=34) rfl ?_);refine goesL_ (some 4) rfl rfl Tryd.func34 (by kernel_rfl) rfl #[.string (⟨#[72,84,84,80,58,47,47,104,63,113,35,102]⟩ : ByteArray)] rfl (by (try simp only [List.map_toArray,List.map_cons,List.map_nil]);first|done|rfl|(simp only [List.length_drop,List.length_take];rfl)) ?_;(with_reducible refine (target_Parse.calls k (⟨#[72,84,84,80,58,47,47,104,63,113,35,102]⟩ : ByteArray) t197 t198 t199 t200 t201 t202 _ ?side1 A1.out).mono ?_);(case side1 => exact ⟨by repeat (first|(with_reducible exact hM_.out)|(with_reducible exact LaidW.below hM_.out HB.out)|(with_reducible refine LaidW.alloc ?_ _)|(with_reducible refine LaidW.drewN ?_ _)|(with_reducible refine LaidW.drew ?_)|exact LaidW.below hM_.out (by repeat (first|(with_reducible first|exact HB.out|apply below_alloc|apply pw_below_drewN|apply below_drew1)|exact HB.out)))⟩);rintro e w23 ⟨rfl,hb⟩;refine ⟨_,rfl,?_⟩;have n0_:=Aside0.mk (below_step (by repeat (first|(with_reducible first|exact HB.out|apply below_alloc|apply pw_below_drewN|apply below_drew1)|exact HB.out)) hb);clear HB;have HB:=n0_;clear n0_;(try clear hb);(try clear hb2);(try clear hk);(try clear hi))|((with_reducible refine gate_dst (N:=1) rfl ?_);refine box_event ?hg (N:=1) ?hd (cs:=#[.string (⟨#[]⟩ : ByteArray),.string (⟨#[]⟩ : ByteArray),.int .i64 0,.string (⟨#[]⟩ : ByteArray),.string (⟨#[]⟩ : ByteArray)]) (t:=44) ?hr ?_;(case hd => rfl);(case hg => rfl);(case hr => first|(go_simp;done)|(go_simp;rfl));intro gb203 hg w24 hbox hb;have n0_:=Aside0.mk (below_step (by repeat (first|(with_reducible first|exact HB.out|apply below_alloc|apply pw_below_drewN|apply below_drew1)|exact HB.out)) hb);have n1_:=Aside0.mk (hbox);have n2_:=Aside0.mk ((by rw [hg];exact (below_size (by repeat (first|(with_reducible first|exact HB.out|apply below_alloc|apply pw_below_drewN|apply below_drew1)|exact HB.out))) : w.heap.size ≤ gb203));have n3_:=Aside0.mk ((by rw [hg];exact (below_size (by repeat (first|(with_reducible first|exact HB.out|apply below_alloc|apply pw_below_drewN|apply below_drew1)|exact HB.out))) : w.heap.size ≤ gb203));clear HB;have HB:=n0_;have BK203:=n1_;have GW203:=n2_;have GE203:=n3_;clear n0_ n1_ n2_ n3_;clear hb hbox hg;have hcz25_0 : w24.cell? ⟨gb203,0,none⟩ = some (.string (⟨#[]⟩ : ByteArray)):=(blk_cell BK203.out 0).trans rfl;have hcz25_1 : w24.cell? ⟨gb203,1,none⟩ = some (.string (⟨#[]⟩ : ByteArray)):=(blk_cell BK203.out 1).trans rfl;have hcz25_2 : w24.cell? ⟨gb203,2,none⟩ = some (.int .i64 0):=(blk_cell BK203.out 2).trans rfl;have hcz25_3 : w24.cell? ⟨gb203,3,none⟩ = some (.string (⟨#[]⟩ : ByteArray)):=(blk_cell BK203.out 3).trans rfl;have hcz25_4 : w24.cell? ⟨gb203,4,none⟩ = some (.string (⟨#[]⟩ : ByteArray)):=(blk_cell BK203.out 4).trans rfl;have hfz25_0:=blk_frozen BK203.out 0;have hfz25_1:=blk_frozen BK203.out 1;have hfz25_2:=blk_frozen BK203.out 2;have hfz25_3:=blk_frozen BK203.out 3;have hfz25_4:=blk_frozen BK203.out 4)|(go_at_call 40;(with_reducible refine (target_Show.calls k t197 t198 t199 t200 t201 t204 _ ?side1 A3.out).mono ?_);(case side1 => exact ⟨by repeat (first|(with_reducible exact hM_.out)|(with_reducible exact LaidW.below hM_.out HB.out)|(with_reducible refine LaidW.alloc ?_ _)|(with_reducible refine LaidW.drewN ?_ _)|(with_reducible refine LaidW.drew ?_)|exact LaidW.below hM_.out (by repeat (first|(with_reducible first|exact HB.out|apply below_alloc|apply pw_below_drewN|apply below_drew1|refine below_set ?_ GE203.out)|exact HB.out)))⟩);rintro e w26 ⟨rfl,hb⟩;have n0_:=Aside0.mk (blk_below (g:=gb203) (o:=.cells #[.string t197,.string t198,.int .i64 t199,.string t200,.string t201] 44 (0,0)) (by (with_reducible repeat (first|refine blk_drewN ?_ _|refine blk_drew ?_|refine blk_alloc ?_ _));refine blk_put (cs:=#[.string t197,.string t198,.int .i64 t199,.string t200,.string (⟨#[]⟩ : ByteArray)]) ?_ 4 _ rfl;(with_reducible repeat (first|refine blk_drewN ?_ _|refine blk_drew ?_|refine blk_alloc ?_ _));refine blk_put (cs:=#[.string t197,.string t198,.int .i64 t199,.string (⟨#[]⟩ : ByteArray),.string (⟨#[]⟩ : ByteArray)]) ?_ 3 _ rfl;(with_reducible repeat (first|refine blk_drewN ?_ _|refine blk_drew ?_|refine blk_alloc ?_ _));refine blk_put (cs:=#[.string t197,.string t198,.int .i64 0,.string (⟨#[]⟩ : ByteArray),.string (⟨#[]⟩ : ByteArray)]) ?_ 2 _ rfl;(with_reducible repeat (first|refine blk_drewN ?_ _|refine blk_drew ?_|refine blk_alloc ?_ _));refine blk_put (cs:=#[.string t197,.string (⟨#[]⟩ : ByteArray),.int .i64 0,.string (⟨#[]⟩ : ByteArray),.string (⟨#[]⟩ : ByteArray)]) ?_ 1 _ rfl;(with_reducible repeat (first|refine blk_drewN ?_ _|refine blk_drew ?_|refine blk_alloc ?_ _));refine blk_put (cs:=#[.string (⟨#[]⟩ : ByteArray),.string (⟨#[]⟩ : ByteArray),.int .i64 0,.string (⟨#[]⟩ : ByteArray),.string (⟨#[]⟩ : ByteArray)]) ?_ 0 _ rfl;(with_reducible repeat (first|refine blk_drewN ?_ _|refine blk_drew ?_|refine blk_alloc ?_ _));exact BK203.out) hb);have n1_:=Aside0.mk (below_step (by repeat (first|(with_reducible first|exact HB.out|apply below_alloc|apply pw_below_drewN|apply below_drew1|refine below_set ?_ GE203.out)|exact HB.out)) hb);clear BK203;clear HB;have BK203:=n0_;have HB:=n1_;clear n0_ n1_;(try clear hb);(try clear hb2);(try clear hk);(try clear hi))|(go_at_call 36;(with_reducible refine (target_Clean.calls k (⟨#[47,97,47,46,47,98,47,46,46,47,99,47,46,46]⟩ : ByteArray) t205 _ A5.out).mono ?_);rintro e w27 ⟨rfl,hb⟩;have n0_:=Aside0.mk (blk_below (g:=gb203) (o:=.cells #[.string t197,.string t198,.int .i64 t199,.string t200,.string t201] 44 (0,0)) (by (with_reducible repeat (first|refine blk_drewN ?_ _|refine blk_drew ?_|refine blk_alloc ?_ _));exact BK203.out) hb);have n1_:=Aside0.mk (below_step (by repeat (first|(with_reducible first|exact HB.out|apply below_alloc|apply pw_below_drewN|apply below_drew1|refine below_set ?_ GE203.out)|exact HB.out)) hb);clear BK203;clear HB;have BK203:=n0_;have HB:=n1_;clear n0_ n1_;(try clear hb);(try clear hb2);(try clear hk);(try clear hi)))
    go_ret
    exact ⟨by first|rfl|(simp [errW_none,errW_some] <;> rfl)|(simp [*,errW_none,errW_some] <;> rfl),by repeat (first|(with_reducible first|exact HB.out|apply below_alloc|apply pw_below_drewN|apply below_drew1|refine below_set ?_ GE203.out)|exact HB.out)⟩
  ·rw [if_neg c4] at H
   have c4b0 : (t204.toList == ([104,116,116,112,58,47,47,104,47,63,113] : List UInt8)) = false:=beq_eq_false_iff_ne.mpr c4
   have c4b1 : (t204.toList != ([104,116,116,112,58,47,47,104,47,63,113] : List UInt8)) = true:=bne_iff_ne.mpr c4
   obtain rfl:=Option.some.inj H
   go_enter Tryd.func33,Tryd.ntmps33
   go_wp2_with (first|((with_reducible refine gate_callee (f:=34) rfl ?_);refine goesL_ (some 4) rfl rfl Tryd.func34 (by kernel_rfl) rfl #[.string (⟨#[72,84,84,80,58,47,47,104,63,113,35,102]⟩ : ByteArray)] rfl (by (try simp only [List.map_toArray,List.map_cons,List.map_nil]);first|done|rfl|(simp only [List.length_drop,List.length_take];rfl)) ?_;(with_reducible refine (target_Parse.calls k (⟨#[72,84,84,80,58,47,47,104,63,113,35,102]⟩ : ByteArray) t197 t198 t199 t200 t201 t202 _ ?side1 A1.out).mono ?_);(case side1 => exact ⟨by repeat (first|(with_reducible exact hM_.out)|(with_reducible exact LaidW.below hM_.out HB.out)|(with_reducible refine LaidW.alloc ?_ _)|(with_reducible refine LaidW.drewN ?_ _)|(with_reducible refine LaidW.drew ?_)|exact LaidW.below hM_.out (by repeat (first|(with_reducible first|exact HB.out|apply below_alloc|apply pw_below_drewN|apply below_drew1)|exact HB.out)))⟩);rintro e w28 ⟨rfl,hb⟩;refine ⟨_,rfl,?_⟩;have n0_:=Aside0.mk (below_step (by repeat (first|(with_reducible first|exact HB.out|apply below_alloc|apply pw_below_drewN|apply below_drew1)|exact HB.out)) hb);clear HB;have HB:=n0_;clear n0_;(try clear hb);(try clear hb2);(try clear hk);(try clear hi))|((with_reducible refine gate_dst (N:=1) rfl ?_);refine box_event ?hg (N:=1) ?hd (cs:=#[.string (⟨#[]⟩ : ByteArray),.string (⟨#[]⟩ : ByteArray),.int .i64 0,.string (⟨#[]⟩ : ByteArray),.string (⟨#[]⟩ : ByteArray)]) (t:=44) ?hr ?_;(case hd => rfl);(case hg => rfl);(case hr => first|(go_simp;done)|(go_simp;rfl));intro gb203 hg w29 hbox hb;have n0_:=Aside0.mk (below_step (by repeat (first|(with_reducible first|exact HB.out|apply below_alloc|apply pw_below_drewN|apply below_drew1)|exact HB.out)) hb);have n1_:=Aside0.mk (hbox);have n2_:=Aside0.mk ((by rw [hg];exact (below_size (by repeat (first|(with_reducible first|exact HB.out|apply below_alloc|apply pw_below_drewN|apply below_drew1)|exact HB.out))) : w.heap.size ≤ gb203));have n3_:=Aside0.mk ((by rw [hg];exact (below_size (by repeat (first|(with_reducible first|exact HB.out|apply below_alloc|apply pw_below_drewN|apply below_drew1)|exact HB.out))) : w.heap.size ≤ gb203));clear HB;have HB:=n0_;have BK203:=n1_;have GW203:=n2_;have GE203:=n3_;clear n0_ n1_ n2_ n3_;clear hb hbox hg;have hcz30_0 : w29.cell? ⟨gb203,0,none⟩ = some (.string (⟨#[]⟩ : ByteArray)):=(blk_cell BK203.out 0).trans rfl;have hcz30_1 : w29.cell? ⟨gb203,1,none⟩ = some (.string (⟨#[]⟩ : ByteArray)):=(blk_cell BK203.out 1).trans rfl;have hcz30_2 : w29.cell? ⟨gb203,2,none⟩ = some (.int .i64 0):=(blk_cell BK203.out 2).trans rfl;have hcz30_3 : w29.cell? ⟨gb203,3,none⟩ = some (.string (⟨#[]⟩ : ByteArray)):=(blk_cell BK203.out 3).trans rfl;have hcz30_4 : w29.cell? ⟨gb203,4,none⟩ = some (.string (⟨#[]⟩ : ByteArray)):=(blk_cell BK203.out 4).trans rfl;have hfz30_0:=blk_frozen BK203.out 0;have hfz30_1:=blk_frozen BK203.out 1;have hfz30_2:=blk_frozen BK203.out 2;have hfz30_3:=blk_frozen BK203.out 3;have hfz30_4:=blk_frozen BK203.out 4)|(go_at_call 40;(with_reducible refine (target_Show.calls k t197 t198 t199 t200 t201 t204 _ ?side1 A3.out).mono ?_);(case side1 => exact ⟨by repeat (first|(with_reducible exact hM_.out)|(with_reducible exact LaidW.below hM_.out HB.out)|(with_reducible refine LaidW.alloc ?_ _)|(with_reducible refine LaidW.drewN ?_ _)|(with_reducible refine LaidW.drew ?_)|exact LaidW.below hM_.out (by repeat (first|(with_reducible first|exact HB.out|apply below_alloc|apply pw_below_drewN|apply below_drew1|refine below_set ?_ GE203.out)|exact HB.out)))⟩);rintro e w31 ⟨rfl,hb⟩;have n0_:=Aside0.mk (blk_below (g:=gb203) (o:=.cells #[.string t197,.string t198,.int .i64 t199,.string t200,.string t201] 44 (0,0)) (by (with_reducible repeat (first|refine blk_drewN ?_ _|refine blk_drew ?_|refine blk_alloc ?_ _));refine blk_put (cs:=#[.string t197,.string t198,.int .i64 t199,.string t200,.string (⟨#[]⟩ : ByteArray)]) ?_ 4 _ rfl;(with_reducible repeat (first|refine blk_drewN ?_ _|refine blk_drew ?_|refine blk_alloc ?_ _));refine blk_put (cs:=#[.string t197,.string t198,.int .i64 t199,.string (⟨#[]⟩ : ByteArray),.string (⟨#[]⟩ : ByteArray)]) ?_ 3 _ rfl;(with_reducible repeat (first|refine blk_drewN ?_ _|refine blk_drew ?_|refine blk_alloc ?_ _));refine blk_put (cs:=#[.string t197,.string t198,.int .i64 0,.string (⟨#[]⟩ : ByteArray),.string (⟨#[]⟩ : ByteArray)]) ?_ 2 _ rfl;(with_reducible repeat (first|refine blk_drewN ?_ _|refine blk_drew ?_|refine blk_alloc ?_ _));refine blk_put (cs:=#[.string t197,.string (⟨#[]⟩ : ByteArray),.int .i64 0,.string (⟨#[]⟩ : ByteArray),.string (⟨#[]⟩ : ByteArray)]) ?_ 1 _ rfl;(with_reducible repeat (first|refine blk_drewN ?_ _|refine blk_drew ?_|refine blk_alloc ?_ _));refine blk_put (cs:=#[.string (⟨#[]⟩ : ByteArray),.string (⟨#[]⟩ : ByteArray),.int .i64 0,.string (⟨#[]⟩ : ByteArray),.string (⟨#[]⟩ : ByteArray)]) ?_ 0 _ rfl;(with_reducible repeat (first|refine blk_drewN ?_ _|refine blk_drew ?_|refine blk_alloc ?_ _));exact BK203.out) hb);have n1_:=Aside0.mk (below_step (by repeat (first|(with_reducible first|exact HB.out|apply below_alloc|apply pw_below_drewN|apply below_drew1|refine below_set ?_ GE203.out)|exact HB.out)) hb);clear BK203;clear HB;have BK203:=n0_;have HB:=n1_;clear n0_ n1_;(try clear hb);(try clear hb2);(try clear hk);(try clear hi)))
   go_ret
   exact ⟨by first|rfl|(simp [errW_none,errW_some] <;> rfl)|(simp [*,errW_none,errW_some] <;> rfl),by repeat (first|(with_reducible first|exact HB.out|apply below_alloc|apply pw_below_drewN|apply below_drew1|refine below_set ?_ GE203.out)|exact HB.out)⟩
 ·rw [if_neg c2] at H
  have c2b0 : (t202 == 0) = false:=beq_eq_false_iff_ne.mpr c2
  have c2b1 : (t202 != 0) = true:=bne_iff_ne.mpr c2
  obtain rfl:=Option.some.inj H
  go_enter Tryd.func33,Tryd.ntmps33
  go_wp2_with (first|((with_reducible refine gate_callee (f:=34) rfl ?_);refine goesL_ (some 4) rfl rfl Tryd.func34 (by kernel_rfl) rfl #[.string (⟨#[72,84,84,80,58,47,47,104,63,113,35,102]⟩ : ByteArray)] rfl (by (try simp only [List.map_toArray,List.map_cons,List.map_nil]);first|done|rfl|(simp only [List.length_drop,List.length_take];rfl)) ?_;(with_reducible refine (target_Parse.calls k (⟨#[72,84,84,80,58,47,47,104,63,113,35,102]⟩ : ByteArray) t197 t198 t199 t200 t201 t202 _ ?side1 A1.out).mono ?_);(case side1 => exact ⟨by repeat (first|(with_reducible exact hM_.out)|(with_reducible exact LaidW.below hM_.out HB.out)|(with_reducible refine LaidW.alloc ?_ _)|(with_reducible refine LaidW.drewN ?_ _)|(with_reducible refine LaidW.drew ?_)|exact LaidW.below hM_.out (by repeat (first|(with_reducible first|exact HB.out|apply below_alloc|apply pw_below_drewN|apply below_drew1)|exact HB.out)))⟩);rintro e w32 ⟨rfl,hb⟩;refine ⟨_,rfl,?_⟩;have n0_:=Aside0.mk (below_step (by repeat (first|(with_reducible first|exact HB.out|apply below_alloc|apply pw_below_drewN|apply below_drew1)|exact HB.out)) hb);clear HB;have HB:=n0_;clear n0_;(try clear hb);(try clear hb2);(try clear hk);(try clear hi))|((with_reducible refine gate_dst (N:=1) rfl ?_);refine box_event ?hg (N:=1) ?hd (cs:=#[.string (⟨#[]⟩ : ByteArray),.string (⟨#[]⟩ : ByteArray),.int .i64 0,.string (⟨#[]⟩ : ByteArray),.string (⟨#[]⟩ : ByteArray)]) (t:=44) ?hr ?_;(case hd => rfl);(case hg => rfl);(case hr => first|(go_simp;done)|(go_simp;rfl));intro gb203 hg w33 hbox hb;have n0_:=Aside0.mk (below_step (by repeat (first|(with_reducible first|exact HB.out|apply below_alloc|apply pw_below_drewN|apply below_drew1)|exact HB.out)) hb);have n1_:=Aside0.mk (hbox);have n2_:=Aside0.mk ((by rw [hg];exact (below_size (by repeat (first|(with_reducible first|exact HB.out|apply below_alloc|apply pw_below_drewN|apply below_drew1)|exact HB.out))) : w.heap.size ≤ gb203));have n3_:=Aside0.mk ((by rw [hg];exact (below_size (by repeat (first|(with_reducible first|exact HB.out|apply below_alloc|apply pw_below_drewN|apply below_drew1)|exact HB.out))) : w.heap.size ≤ gb203));clear HB;have HB:=n0_;have BK203:=n1_;have GW203:=n2_;have GE203:=n3_;clear n0_ n1_ n2_ n3_;clear hb hbox hg;have hcz34_0 : w33.cell? ⟨gb203,0,none⟩ = some (.string (⟨#[]⟩ : ByteArray)):=(blk_cell BK203.out 0).trans rfl;have hcz34_1 : w33.cell? ⟨gb203,1,none⟩ = some (.string (⟨#[]⟩ : ByteArray)):=(blk_cell BK203.out 1).trans rfl;have hcz34_2 : w33.cell? ⟨gb203,2,none⟩ = some (.int .i64 0):=(blk_cell BK203.out 2).trans rfl;have hcz34_3 : w33.cell? ⟨gb203,3,none⟩ = some (.string (⟨#[]⟩ : ByteArray)):=(blk_cell BK203.out 3).trans rfl;have hcz34_4 : w33.cell? ⟨gb203,4,none⟩ = some (.string (⟨#[]⟩ : ByteArray)):=(blk_cell BK203.out 4).trans rfl;have hfz34_0:=blk_frozen BK203.out 0;have hfz34_1:=blk_frozen BK203.out 1;have hfz34_2:=blk_frozen BK203.out 2;have hfz34_3:=blk_frozen BK203.out 3;have hfz34_4:=blk_frozen BK203.out 4))
  go_ret
  exact ⟨by first|rfl|(simp [errW_none,errW_some] <;> rfl)|(simp [*,errW_none,errW_some] <;> rfl),by repeat (first|(with_reducible first|exact HB.out|apply below_alloc|apply pw_below_drewN|apply below_drew1|refine below_set ?_ GE203.out)|exact HB.out)⟩

/-! ### lockkeeperref3_Default: function 28 -/
def lockkeeperref3_Default.f (a0 : ByteArray) : Option (Int):=if a0.toList = ([104,116,116,112] : List UInt8) then (some 80) else (if a0.toList = ([104,116,116,112,115] : List UInt8) then (some 443) else (some 0))
set_option maxHeartbeats 8000000 in
set_option maxRecDepth 100000 in
theorem lockkeeperref3_Default.calls (a0 : ByteArray) (r : Int) (w : World) (h : lockkeeperref3_Default.f a0 = some r) :
  Calls Tryd.prog 28 #[.string a0] w fun e w' => e = .returned (.int .i64 r) ∧ Drawn0 w w':=by
 have H : (if a0.toList = ([104,116,116,112] : List UInt8) then (some 80) else (if a0.toList = ([104,116,116,112,115] : List UInt8) then (some 443) else (some 0))) = some r:=h
 clear h
 by_cases c2 : a0.toList = ([104,116,116,112] : List UInt8)
 ·rw [if_pos c2] at H
  have c2b0 : (a0.toList == ([104,116,116,112] : List UInt8)) = true:=beq_iff_eq.mpr c2
  have c2b1 : (a0.toList != ([104,116,116,112] : List UInt8)) = false:=bne_eq_false_iff_eq.mpr c2
  clear c2
  obtain rfl:=Option.some.inj H
  go_enter Tryd.func28,Tryd.ntmps28
  go_wp2
  go_ret
  exact ⟨by first|rfl|(simp;done)|(simp [*];done),by repeat (first|exact Drawn0.refl _|apply Drawn0.step)⟩
 ·rw [if_neg c2] at H
  have c2b0 : (a0.toList == ([104,116,116,112] : List UInt8)) = false:=beq_eq_false_iff_ne.mpr c2
  have c2b1 : (a0.toList != ([104,116,116,112] : List UInt8)) = true:=bne_iff_ne.mpr c2
  by_cases c3 : a0.toList = ([104,116,116,112,115] : List UInt8)
  ·rw [if_pos c3] at H
   have c3b0 : (a0.toList == ([104,116,116,112,115] : List UInt8)) = true:=beq_iff_eq.mpr c3
   have c3b1 : (a0.toList != ([104,116,116,112,115] : List UInt8)) = false:=bne_eq_false_iff_eq.mpr c3
   clear c3
   obtain rfl:=Option.some.inj H
   go_enter Tryd.func28,Tryd.ntmps28
   go_wp2
   go_ret
   exact ⟨by first|rfl|(simp;done)|(simp [*];done),by repeat (first|exact Drawn0.refl _|apply Drawn0.step)⟩
  ·rw [if_neg c3] at H
   have c3b0 : (a0.toList == ([104,116,116,112,115] : List UInt8)) = false:=beq_eq_false_iff_ne.mpr c3
   have c3b1 : (a0.toList != ([104,116,116,112,115] : List UInt8)) = true:=bne_iff_ne.mpr c3
   obtain rfl:=Option.some.inj H
   go_enter Tryd.func28,Tryd.ntmps28
   go_wp2
   go_ret
   exact ⟨by first|rfl|(simp;done)|(simp [*];done),by repeat (first|exact Drawn0.refl _|apply Drawn0.step)⟩

end Go.Proofs.YtbfbidifodcedaaDoor.Pr
