-- Made by a program of this session (wip/xp/xp.py), over the print's words.
import Derived.Test.YtbfbidifodcedaaDoorPr0
import Derived.Test.YtbfbidifodcedaaDoorPr2
import Derived.Test.YtbfbidifodcedaaDoorPr3
import Derived.Test.YtbfbidifodcedaaDoorG3
import Derived.Test.YtbfbidifodcedaaDoorG5
namespace Go.Proofs.YtbfbidifodcedaaDoor.Pr
open Go.RowKit Go.Proofs.YtbfbidifodcedaaDoorW.PrintWords Go.Proofs.YtbfbidifodcedaaDoorW.PrintLast Go.Proofs.YtbfbidifodcedaaDoorW.PrintMore
attribute [local go_sem] max2_int min2_int max_two min_two max_three min_three max_four min_four   -- for this text's walks alone
set_option linter.unusedVariables false
set_option linter.unusedSimpArgs false

/-! ### target_Parse: function 34 -/
mutual
def target_Parse.j0 : Nat → ByteArray → ByteArray → Int → Option (ByteArray × ByteArray × Int × ByteArray × ByteArray × Int)
 | 0,_,_,_ => none
 | k + 1,x4,x5,x7 => if x4.size + 3 ≤ 9223372036854775807 then (if 0 ≤ x7 then (if x7 ≤ (x5.size : Int) then (if (x4 ++ (⟨#[58,47,47]⟩ : ByteArray)).size + (x5.extract 0 (x7 : Int).toNat).size ≤ 9223372036854775807 then ((origin_Parse.f k ((x4 ++ (⟨#[58,47,47]⟩ : ByteArray)) ++ (x5.extract 0 (x7 : Int).toNat))).bind fun bt168 => (if bt168.2.2.2 = 0 then ((strings_Cut.f (x5.extract (x7 : Int).toNat x5.size) (⟨#[63]⟩ : ByteArray)).bind fun bt173 => ((target_all.f k bt173.1 (⟨#[34,35,60,62,63,92,94,123,124,125,96]⟩ : ByteArray)).bind fun t176 => (if t176 = true then ((target_all.f k bt173.2.1 (⟨#[34,35,60,62]⟩ : ByteArray)).bind fun t177 => (target_Parse.j1 k bt173.1 bt173.2.1 bt173.2.2 (!t177) bt168.1 bt168.2.1 bt168.2.2.1)) else (target_Parse.j1 k bt173.1 bt173.2.1 bt173.2.2 true bt168.1 bt168.2.1 bt168.2.2.1)))) else (some ((⟨#[]⟩ : ByteArray),(⟨#[]⟩ : ByteArray),0,(⟨#[]⟩ : ByteArray),(⟨#[]⟩ : ByteArray),bt168.2.2.2)))) else (none)) else (none)) else (none)) else (none)
def target_Parse.j1 : Nat → ByteArray → ByteArray → Bool → Bool → ByteArray → ByteArray → Int → Option (ByteArray × ByteArray × Int × ByteArray × ByteArray × Int)
 | 0,_,_,_,_,_,_,_ => none
 | k + 1,x10,x11,x12,x68,x173000,x173001,x173002 => if x68 = true then (some ((⟨#[]⟩ : ByteArray),(⟨#[]⟩ : ByteArray),0,(⟨#[]⟩ : ByteArray),(⟨#[]⟩ : ByteArray),3)) else ((target_Clean.f k x10).bind fun t178 => (if x12 = true then (if 1 + x11.size ≤ 9223372036854775807 then ((target_show.f k x173000 x173001 x173002 t178 ((⟨#[63]⟩ : ByteArray) ++ x11)).bind fun t180 => (if (t180.size : Int) > 512 then (some ((⟨#[]⟩ : ByteArray),(⟨#[]⟩ : ByteArray),0,(⟨#[]⟩ : ByteArray),(⟨#[]⟩ : ByteArray),4)) else (some (x173000,x173001,x173002,t178,(⟨#[63]⟩ : ByteArray) ++ x11,0)))) else (none)) else ((target_show.f k x173000 x173001 x173002 t178 (⟨#[]⟩ : ByteArray)).bind fun t181 => (if (t181.size : Int) > 512 then (some ((⟨#[]⟩ : ByteArray),(⟨#[]⟩ : ByteArray),0,(⟨#[]⟩ : ByteArray),(⟨#[]⟩ : ByteArray),4)) else (some (x173000,x173001,x173002,t178,(⟨#[]⟩ : ByteArray),0))))))
end
def target_Parse.f (k : Nat) (a0 : ByteArray) : Option (ByteArray × ByteArray × Int × ByteArray × ByteArray × Int):=if (a0.size : Int) > 512 then (some ((⟨#[]⟩ : ByteArray),(⟨#[]⟩ : ByteArray),0,(⟨#[]⟩ : ByteArray),(⟨#[]⟩ : ByteArray),4)) else ((strings_Cut.f a0 (⟨#[35]⟩ : ByteArray)).bind fun bt161 => ((strings_Cut.f bt161.1 (⟨#[58,47,47]⟩ : ByteArray)).bind fun bt164 => (if bt164.2.2 = true then ((strings_IndexAny.f bt164.2.1 (⟨#[47,63]⟩ : ByteArray)).bind fun t167 => (if t167 < 0 then (target_Parse.j0 k bt164.1 bt164.2.1 (bt164.2.1.size : Int)) else (target_Parse.j0 k bt164.1 bt164.2.1 t167))) else (some ((⟨#[]⟩ : ByteArray),(⟨#[]⟩ : ByteArray),0,(⟨#[]⟩ : ByteArray),(⟨#[]⟩ : ByteArray),3)))))
theorem target_Parse.mono_l : ∀ k,(∀ y0 y1 y2,LeO (target_Parse.j0 k y0 y1 y2) (target_Parse.j0 (k + 1) y0 y1 y2)) ∧ (∀ y0 y1 y2 y3 y4 y5 y6,LeO (target_Parse.j1 k y0 y1 y2 y3 y4 y5 y6) (target_Parse.j1 (k + 1) y0 y1 y2 y3 y4 y5 y6))
 | 0 => ⟨fun _ _ _ r h => by simp [target_Parse.j0] at h,fun _ _ _ _ _ _ _ r h => by simp [target_Parse.j1] at h⟩
 | k + 1 => by
  obtain ⟨ih0,ih1⟩:=target_Parse.mono_l k
  refine ⟨?_,?_⟩
  ·intro y0 y1 y2
   unfold target_Parse.j0
   repeat' first
   | (with_reducible exact ih0 _ _ _)
   | (with_reducible exact ih1 _ _ _ _ _ _ _)
   | (with_reducible exact origin_Parse.mono _ _)
   | (with_reducible exact target_Clean.mono _ _)
   | (with_reducible exact target_all.mono _ _ _)
   | (with_reducible exact target_show.mono _ _ _ _ _ _)
   | (with_reducible exact LeO.refl _)
   | (with_reducible exact LeO.none _)
   | (with_reducible refine LeO.ite ?_ ?_)
   | (with_reducible refine LeO.bind ?_ (fun _ => ?_))
   | exact ih0 _ _ _
   | exact ih1 _ _ _ _ _ _ _
   | exact origin_Parse.mono _ _
   | exact target_Clean.mono _ _
   | exact target_all.mono _ _ _
   | exact target_show.mono _ _ _ _ _ _
   | exact LeO.none _
   | refine LeO.ite ?_ ?_
   | refine LeO.bind ?_ (fun _ => ?_)
  ·intro y0 y1 y2 y3 y4 y5 y6
   unfold target_Parse.j1
   repeat' first
   | (with_reducible exact ih0 _ _ _)
   | (with_reducible exact ih1 _ _ _ _ _ _ _)
   | (with_reducible exact origin_Parse.mono _ _)
   | (with_reducible exact target_Clean.mono _ _)
   | (with_reducible exact target_all.mono _ _ _)
   | (with_reducible exact target_show.mono _ _ _ _ _ _)
   | (with_reducible exact LeO.refl _)
   | (with_reducible exact LeO.none _)
   | (with_reducible refine LeO.ite ?_ ?_)
   | (with_reducible refine LeO.bind ?_ (fun _ => ?_))
   | exact ih0 _ _ _
   | exact ih1 _ _ _ _ _ _ _
   | exact origin_Parse.mono _ _
   | exact target_Clean.mono _ _
   | exact target_all.mono _ _ _
   | exact target_show.mono _ _ _ _ _ _
   | exact LeO.none _
   | refine LeO.ite ?_ ?_
   | refine LeO.bind ?_ (fun _ => ?_)
theorem target_Parse.mono : ∀ a0 k,LeO (target_Parse.f k a0) (target_Parse.f (k + 1) a0):=by
 intro a0 k
 obtain ⟨ih0,ih1⟩:=target_Parse.mono_l k
 unfold target_Parse.f
 repeat' first
   | (with_reducible exact ih0 _ _ _)
   | (with_reducible exact ih1 _ _ _ _ _ _ _)
   | (with_reducible exact origin_Parse.mono _ _)
   | (with_reducible exact target_Clean.mono _ _)
   | (with_reducible exact target_all.mono _ _ _)
   | (with_reducible exact target_show.mono _ _ _ _ _ _)
   | (with_reducible exact LeO.refl _)
   | (with_reducible exact LeO.none _)
   | (with_reducible refine LeO.ite ?_ ?_)
   | (with_reducible refine LeO.bind ?_ (fun _ => ?_))
   | exact ih0 _ _ _
   | exact ih1 _ _ _ _ _ _ _
   | exact origin_Parse.mono _ _
   | exact target_Clean.mono _ _
   | exact target_all.mono _ _ _
   | exact target_show.mono _ _ _ _ _ _
   | exact LeO.none _
   | refine LeO.ite ?_ ?_
   | refine LeO.bind ?_ (fun _ => ?_)
set_option maxHeartbeats 8000000 in
set_option maxRecDepth 100000 in
theorem target_Parse.calls (k : Nat) (a0 : ByteArray) (r1 : ByteArray) (r2 : ByteArray) (r3 : Int) (r4 : ByteArray) (r5 : ByteArray) (r6 : Int) (w : World) (hM_ : Aside0 (LaidW w)) (h : target_Parse.f k a0 = some (r1,r2,r3,r4,r5,r6)) :
  Calls Tryd.prog 34 #[.string a0] w fun e w' => e = .returned (.tuple #[.agg #[.string r1,.string r2,.int .i64 r3,.string r4,.string r5],.int .i64 r6]) ∧ Below w.heap.size w w':=by
 have hu44:=Tryd.underlying44
 have hu23:=Tryd.underlying23
 have HB:=Aside0.mk (Below.refl w.heap.size w)
 have H : (if (a0.size : Int) > 512 then (some ((⟨#[]⟩ : ByteArray),(⟨#[]⟩ : ByteArray),0,(⟨#[]⟩ : ByteArray),(⟨#[]⟩ : ByteArray),4)) else ((strings_Cut.f a0 (⟨#[35]⟩ : ByteArray)).bind fun bt161 => ((strings_Cut.f bt161.1 (⟨#[58,47,47]⟩ : ByteArray)).bind fun bt164 => (if bt164.2.2 = true then ((strings_IndexAny.f bt164.2.1 (⟨#[47,63]⟩ : ByteArray)).bind fun t167 => (if t167 < 0 then (target_Parse.j0 k bt164.1 bt164.2.1 (bt164.2.1.size : Int)) else (target_Parse.j0 k bt164.1 bt164.2.1 t167))) else (some ((⟨#[]⟩ : ByteArray),(⟨#[]⟩ : ByteArray),0,(⟨#[]⟩ : ByteArray),(⟨#[]⟩ : ByteArray),3)))))) = some (r1,r2,r3,r4,r5,r6):=h
 clear h
 by_cases c2 : (a0.size : Int) > 512
 ·rw [if_pos c2] at H
  have c2b0 : decide (512 < (a0.size : Int)) = true:=decide_eq_true c2
  have c2b1 : decide (512 < a0.size) = true:=decide_eq_true (by omega)
  clear c2
  simp only [Option.some.injEq,Prod.mk.injEq] at H
  obtain ⟨rfl,rfl,rfl,rfl,rfl,rfl⟩:=H
  go_enter Tryd.func34,Tryd.ntmps34
  go_wp2_with (first|((with_reducible refine gate_dst (N:=2) rfl ?_);refine box_event ?hg (N:=2) ?hd (cs:=#[.string (⟨#[]⟩ : ByteArray),.string (⟨#[]⟩ : ByteArray),.int .i64 0,.string (⟨#[]⟩ : ByteArray),.string (⟨#[]⟩ : ByteArray)]) (t:=44) ?hr ?_;(case hd => rfl);(case hg => rfl);(case hr => first|(go_simp;done)|(go_simp;rfl));intro gb160 hg w3 hbox hb;have n0_:=Aside0.mk (below_step (by repeat (first|(with_reducible first|exact HB.out|apply below_alloc|apply pw_below_drewN|apply below_drew1)|exact HB.out)) hb);have n1_:=Aside0.mk (hbox);have n2_:=Aside0.mk ((by rw [hg];exact (below_size (by repeat (first|(with_reducible first|exact HB.out|apply below_alloc|apply pw_below_drewN|apply below_drew1)|exact HB.out))) : w.heap.size ≤ gb160));have n3_:=Aside0.mk ((by rw [hg];exact (below_size (by repeat (first|(with_reducible first|exact HB.out|apply below_alloc|apply pw_below_drewN|apply below_drew1)|exact HB.out))) : w.heap.size ≤ gb160));clear HB;have HB:=n0_;have BK160:=n1_;have GW160:=n2_;have GE160:=n3_;clear n0_ n1_ n2_ n3_;clear hb hbox hg;have hcz4_0 : w3.cell? ⟨gb160,0,none⟩ = some (.string (⟨#[]⟩ : ByteArray)):=(blk_cell BK160.out 0).trans rfl;have hcz4_1 : w3.cell? ⟨gb160,1,none⟩ = some (.string (⟨#[]⟩ : ByteArray)):=(blk_cell BK160.out 1).trans rfl;have hcz4_2 : w3.cell? ⟨gb160,2,none⟩ = some (.int .i64 0):=(blk_cell BK160.out 2).trans rfl;have hcz4_3 : w3.cell? ⟨gb160,3,none⟩ = some (.string (⟨#[]⟩ : ByteArray)):=(blk_cell BK160.out 3).trans rfl;have hcz4_4 : w3.cell? ⟨gb160,4,none⟩ = some (.string (⟨#[]⟩ : ByteArray)):=(blk_cell BK160.out 4).trans rfl;have hfz4_0:=blk_frozen BK160.out 0;have hfz4_1:=blk_frozen BK160.out 1;have hfz4_2:=blk_frozen BK160.out 2;have hfz4_3:=blk_frozen BK160.out 3;have hfz4_4:=blk_frozen BK160.out 4))
  refine bodyPost_ret (results_ct rfl _ _ gb160 44 #[.string (⟨#[]⟩ : ByteArray),.string (⟨#[]⟩ : ByteArray),.int .i64 0,.string (⟨#[]⟩ : ByteArray),.string (⟨#[]⟩ : ByteArray)] (0,0) _ rfl (by (with_reducible repeat (first|refine blk_drewN ?_ _|refine blk_drew ?_|refine blk_alloc ?_ _));refine blk_put (cs:=#[.string (⟨#[]⟩ : ByteArray),.string (⟨#[]⟩ : ByteArray),.int .i64 0,.string (⟨#[]⟩ : ByteArray),.string (⟨#[]⟩ : ByteArray)]) ?_ 4 _ rfl;(with_reducible repeat (first|refine blk_drewN ?_ _|refine blk_drew ?_|refine blk_alloc ?_ _));refine blk_put (cs:=#[.string (⟨#[]⟩ : ByteArray),.string (⟨#[]⟩ : ByteArray),.int .i64 0,.string (⟨#[]⟩ : ByteArray),.string (⟨#[]⟩ : ByteArray)]) ?_ 3 _ rfl;(with_reducible repeat (first|refine blk_drewN ?_ _|refine blk_drew ?_|refine blk_alloc ?_ _));refine blk_put (cs:=#[.string (⟨#[]⟩ : ByteArray),.string (⟨#[]⟩ : ByteArray),.int .i64 0,.string (⟨#[]⟩ : ByteArray),.string (⟨#[]⟩ : ByteArray)]) ?_ 2 _ rfl;(with_reducible repeat (first|refine blk_drewN ?_ _|refine blk_drew ?_|refine blk_alloc ?_ _));refine blk_put (cs:=#[.string (⟨#[]⟩ : ByteArray),.string (⟨#[]⟩ : ByteArray),.int .i64 0,.string (⟨#[]⟩ : ByteArray),.string (⟨#[]⟩ : ByteArray)]) ?_ 1 _ rfl;(with_reducible repeat (first|refine blk_drewN ?_ _|refine blk_drew ?_|refine blk_alloc ?_ _));refine blk_put (cs:=#[.string (⟨#[]⟩ : ByteArray),.string (⟨#[]⟩ : ByteArray),.int .i64 0,.string (⟨#[]⟩ : ByteArray),.string (⟨#[]⟩ : ByteArray)]) ?_ 0 _ rfl;(with_reducible repeat (first|refine blk_drewN ?_ _|refine blk_drew ?_|refine blk_alloc ?_ _));exact BK160.out) Tryd.underlying44 rfl (by kernel_rfl)) rfl ?_
  exact ⟨by first|rfl|(simp [errW_none,errW_some] <;> rfl)|(simp [*,errW_none,errW_some] <;> rfl),by repeat (first|(with_reducible first|exact HB.out|apply below_alloc|apply pw_below_drewN|apply below_drew1|refine below_set ?_ GE160.out)|exact HB.out)⟩
 ·rw [if_neg c2] at H
  have c2b0 : decide (512 < (a0.size : Int)) = false:=decide_eq_false c2
  have c2b1 : decide (512 < a0.size) = false:=decide_eq_false (by omega)
  clear c2
  replace H:=Option.bind_eq_some_iff.mp H
  obtain ⟨⟨t161,t162,t163⟩,A50,H⟩:=H
  replace H : ((strings_Cut.f t161 (⟨#[58,47,47]⟩ : ByteArray)).bind fun bt164 => (if bt164.2.2 = true then ((strings_IndexAny.f bt164.2.1 (⟨#[47,63]⟩ : ByteArray)).bind fun t167 => (if t167 < 0 then (target_Parse.j0 k bt164.1 bt164.2.1 (bt164.2.1.size : Int)) else (target_Parse.j0 k bt164.1 bt164.2.1 t167))) else (some ((⟨#[]⟩ : ByteArray),(⟨#[]⟩ : ByteArray),0,(⟨#[]⟩ : ByteArray),(⟨#[]⟩ : ByteArray),3)))) = some (r1,r2,r3,r4,r5,r6):=H
  have A5:=Aside0.mk A50
  clear A50
  replace H:=Option.bind_eq_some_iff.mp H
  obtain ⟨⟨t164,t165,t166⟩,A60,H⟩:=H
  replace H : (if t166 = true then ((strings_IndexAny.f t165 (⟨#[47,63]⟩ : ByteArray)).bind fun t167 => (if t167 < 0 then (target_Parse.j0 k t164 t165 (t165.size : Int)) else (target_Parse.j0 k t164 t165 t167))) else (some ((⟨#[]⟩ : ByteArray),(⟨#[]⟩ : ByteArray),0,(⟨#[]⟩ : ByteArray),(⟨#[]⟩ : ByteArray),3))) = some (r1,r2,r3,r4,r5,r6):=H
  have A6:=Aside0.mk A60
  clear A60
  by_cases c7 : t166 = true
  ·subst c7
   have H1 : ((strings_IndexAny.f t165 (⟨#[47,63]⟩ : ByteArray)).bind fun t167 => (if t167 < 0 then (target_Parse.j0 k t164 t165 (t165.size : Int)) else (target_Parse.j0 k t164 t165 t167))) = some (r1,r2,r3,r4,r5,r6):=by rw [if_pos rfl] at H;exact H
   clear H
   have H:=H1
   clear H1
   replace H:=Option.bind_eq_some_iff.mp H
   obtain ⟨t167,A80,H⟩:=H
   replace H : (if t167 < 0 then (target_Parse.j0 k t164 t165 (t165.size : Int)) else (target_Parse.j0 k t164 t165 t167)) = some (r1,r2,r3,r4,r5,r6):=H
   have A8:=Aside0.mk A80
   clear A80
   have HC9:=Aside0.mk H
   clear H
   go_enter Tryd.func34,Tryd.ntmps34
   go_upto_if 36 with (first|((with_reducible refine gate_dst (N:=2) rfl ?_);refine box_event ?hg (N:=2) ?hd (cs:=#[.string (⟨#[]⟩ : ByteArray),.string (⟨#[]⟩ : ByteArray),.int .i64 0,.string (⟨#[]⟩ : ByteArray),.string (⟨#[]⟩ : ByteArray)]) (t:=44) ?hr ?_;(case hd => rfl);(case hg => rfl);(case hr => first|(go_simp;done)|(go_simp;rfl));intro gb160 hg w10 hbox hb;have n0_:=Aside0.mk (below_step (by repeat (first|(with_reducible first|exact HB.out|apply below_alloc|apply pw_below_drewN|apply below_drew1)|exact HB.out)) hb);have n1_:=Aside0.mk (hbox);have n2_:=Aside0.mk ((by rw [hg];exact (below_size (by repeat (first|(with_reducible first|exact HB.out|apply below_alloc|apply pw_below_drewN|apply below_drew1)|exact HB.out))) : w.heap.size ≤ gb160));have n3_:=Aside0.mk ((by rw [hg];exact (below_size (by repeat (first|(with_reducible first|exact HB.out|apply below_alloc|apply pw_below_drewN|apply below_drew1)|exact HB.out))) : w.heap.size ≤ gb160));clear HB;have HB:=n0_;have BK160:=n1_;have GW160:=n2_;have GE160:=n3_;clear n0_ n1_ n2_ n3_;clear hb hbox hg)|((with_reducible refine gate_callee (f:=44) rfl ?_);refine goesL_ (some 20) rfl rfl Tryd.func44 (by kernel_rfl) rfl #[.string a0,.string (⟨#[35]⟩ : ByteArray)] rfl (by (try simp only [List.map_toArray,List.map_cons,List.map_nil]);first|done|rfl|(simp only [List.length_drop,List.length_take];rfl)) ?_;(with_reducible refine (strings_Cut.calls a0 (⟨#[35]⟩ : ByteArray) t161 t162 t163 _ ?side1 A5.out).mono ?_);(case side1 => exact ⟨by repeat (first|(with_reducible exact hM_.out)|(with_reducible exact LaidW.below hM_.out HB.out)|(with_reducible refine LaidW.alloc ?_ _)|(with_reducible refine LaidW.drewN ?_ _)|(with_reducible refine LaidW.drew ?_)|exact LaidW.below hM_.out (by repeat (first|(with_reducible first|exact HB.out|apply below_alloc|apply pw_below_drewN|apply below_drew1|refine below_set ?_ GE160.out)|exact HB.out)))⟩);rintro e w' ⟨rfl,⟨nd,rfl⟩⟩;refine ⟨_,rfl,?_⟩)|((with_reducible refine gate_callee (f:=44) rfl ?_);refine goesL_ (some 26) rfl rfl Tryd.func44 (by kernel_rfl) rfl #[.string t161,.string (⟨#[58,47,47]⟩ : ByteArray)] rfl (by (try simp only [List.map_toArray,List.map_cons,List.map_nil]);first|done|rfl|(simp only [List.length_drop,List.length_take];rfl)) ?_;(with_reducible refine (strings_Cut.calls t161 (⟨#[58,47,47]⟩ : ByteArray) t164 t165 true _ ?side1 A6.out).mono ?_);(case side1 => exact ⟨by repeat (first|(with_reducible exact hM_.out)|(with_reducible exact LaidW.below hM_.out HB.out)|(with_reducible refine LaidW.alloc ?_ _)|(with_reducible refine LaidW.drewN ?_ _)|(with_reducible refine LaidW.drew ?_)|exact LaidW.below hM_.out (by repeat (first|(with_reducible first|exact HB.out|apply below_alloc|apply pw_below_drewN|apply below_drew1|refine below_set ?_ GE160.out)|exact HB.out)))⟩);rintro e w' ⟨rfl,⟨nd,rfl⟩⟩;refine ⟨_,rfl,?_⟩)|((with_reducible refine gate_callee (f:=52) rfl ?_);refine goesL_ (some 34) rfl rfl Tryd.func52 (by kernel_rfl) rfl #[.string t165,.string (⟨#[47,63]⟩ : ByteArray)] rfl (by (try simp only [List.map_toArray,List.map_cons,List.map_nil]);first|done|rfl|(simp only [List.length_drop,List.length_take];rfl)) ?_;(with_reducible refine (strings_IndexAny.calls t165 (⟨#[47,63]⟩ : ByteArray) t167 _ A8.out).mono ?_);rintro e w11 ⟨rfl,hb⟩;refine ⟨_,rfl,?_⟩;have n0_:=Aside0.mk (blk_below (g:=gb160) (o:=.cells #[.string (⟨#[]⟩ : ByteArray),.string (⟨#[]⟩ : ByteArray),.int .i64 0,.string (⟨#[]⟩ : ByteArray),.string (⟨#[]⟩ : ByteArray)] 44 (0,0)) (by (with_reducible repeat (first|refine blk_drewN ?_ _|refine blk_drew ?_|refine blk_alloc ?_ _));exact BK160.out) hb);have n1_:=Aside0.mk (below_step (by repeat (first|(with_reducible first|exact HB.out|apply below_alloc|apply pw_below_drewN|apply below_drew1|refine below_set ?_ GE160.out)|exact HB.out)) hb);clear BK160;clear HB;have BK160:=n0_;have HB:=n1_;clear n0_ n1_;(try clear hb);(try clear hb2);(try clear hk);(try clear hi)))
   (try simp only [Act.put,List.setIfInBounds_toArray,List.set_cons_zero,List.set_cons_succ])
   go_cut [7] (fun v7 wc => ∃ (kq : Nat) (x7_8 : Int),v7 = .int .i64 x7_8 ∧ Aside0 (target_Parse.j0 kq t164 t165 x7_8 = some (r1,r2,r3,r4,r5,r6)) ∧ Aside0 (kq ≤ k) ∧ Aside0 (wc.heap[gb160]? = some (.cells #[.string (⟨#[]⟩ : ByteArray),.string (⟨#[]⟩ : ByteArray),.int .i64 0,.string (⟨#[]⟩ : ByteArray),.string (⟨#[]⟩ : ByteArray)] 44 (0,0))) ∧ Aside0 (Below w.heap.size w wc))
   case first =>
    have H:=HC9.out
    clear HC9
    by_cases c12 : t167 < 0
    ·rw [if_pos c12] at H
     have c12b0 : decide (t167 < 0) = true:=decide_eq_true c12
     clear c12
     (first|rw [c12b0]|(simp only [i64_w,i32_w];rw [c12b0])|skip)
     have H':=Aside0.mk H
     clear H
     go_wp2
     go_meet
     case rel => exact ⟨_,((t165.size : Int)),(by first|rfl|(simp;done)|(simp [*];done)),H',⟨by first|omega|exact Nat.le_refl _⟩,⟨by (with_reducible repeat (first|refine blk_drewN ?_ _|refine blk_drew ?_|refine blk_alloc ?_ _));exact BK160.out⟩,⟨by repeat (first|(with_reducible first|exact HB.out|apply below_alloc|apply pw_below_drewN|apply below_drew1|refine below_set ?_ GE160.out)|exact HB.out)⟩⟩
    ·rw [if_neg c12] at H
     have c12b0 : decide (t167 < 0) = false:=decide_eq_false c12
     clear c12
     (first|rw [c12b0]|(simp only [i64_w,i32_w];rw [c12b0])|skip)
     have H':=Aside0.mk H
     clear H
     go_wp2
     go_meet
     case rel => exact ⟨_,(t167),(by first|rfl|(simp;done)|(simp [*];done)),H',⟨by first|omega|exact Nat.le_refl _⟩,⟨by (with_reducible repeat (first|refine blk_drewN ?_ _|refine blk_drew ?_|refine blk_alloc ?_ _));exact BK160.out⟩,⟨by repeat (first|(with_reducible first|exact HB.out|apply below_alloc|apply pw_below_drewN|apply below_drew1|refine below_set ?_ GE160.out)|exact HB.out)⟩⟩
   case rest =>
    clear HC9
    try clear c1
    try clear c2
    try clear c2b0
    try clear c2b1
    try clear p2
    try clear c3
    try clear c4
    try clear c5
    try clear c7
    try clear c12
    try clear c12b0
    try clear hcz4_0
    try clear hcz4_1
    try clear hcz4_2
    try clear hcz4_3
    try clear hcz4_4
    try clear hfz4_0
    try clear hfz4_1
    try clear hfz4_2
    try clear hfz4_3
    try clear hfz4_4
    obtain ⟨kq,x7_8,rfl,HA,HJ8,BK160,HB⟩:=hcut
    cases kq with
    | zero => exact absurd HA.out (by simp [target_Parse.j0])
    | succ kj8 =>
     have H:=HA.out
     clear HA
     simp only [target_Parse.j0] at H
     by_cases c13 : t164.size + 3 ≤ 9223372036854775807
     ·rw [if_pos c13] at H
      have c13b0:=eq_true c13
      have c13b1 : decide (t164.size + 3 ≤ 9223372036854775807) = true:=decide_eq_true c13
      try have c13b2 : (9223372036854775807 < t164.size + 3) = False:=eq_false (Nat.not_lt.2 c13)
      by_cases c14 : 0 ≤ x7_8
      ·rw [if_pos c14] at H
       have c14b0:=eq_true c14
       have c14b1 : decide (0 ≤ x7_8) = true:=decide_eq_true c14
       clear c14
       by_cases c15 : x7_8 ≤ (t165.size : Int)
       ·rw [if_pos c15] at H
        have c15b0:=eq_true c15
        have c15b1 : decide (x7_8 ≤ (t165.size : Int)) = true:=decide_eq_true c15
        clear c15
        by_cases c16 : (t164 ++ (⟨#[58,47,47]⟩ : ByteArray)).size + (t165.extract 0 (x7_8 : Int).toNat).size ≤ 9223372036854775807
        ·rw [if_pos c16] at H
         try (have c16b5:=c16;simp only [ByteArray.size_append,Int.natCast_add] at c16b5)
         have c16b0:=eq_true c16
         have c16b1 : decide ((t164 ++ (⟨#[58,47,47]⟩ : ByteArray)).size + (t165.extract 0 (x7_8 : Int).toNat).size ≤ 9223372036854775807) = true:=decide_eq_true c16
         try have c16b2 : (9223372036854775807 < (t164 ++ (⟨#[58,47,47]⟩ : ByteArray)).size + (t165.extract 0 (x7_8 : Int).toNat).size) = False:=eq_false (Nat.not_lt.2 c16)
         try (have c16b7:=c16b2;simp (disch:=omega) only [ByteArray.size_append,ByteArray.size_extract,Nat.sub_zero,Nat.min_self,Nat.min_eq_left] at c16b7)
         try (have c16b8:=c16b0;simp only [ByteArray.size_extract,Nat.min_self,Nat.sub_zero] at c16b8)
         try have c16b3 : (9223372036854775807 < t164.size + 3 + (t165.extract 0 (x7_8 : Int).toNat).size) = False:=eq_false (Nat.not_lt.2 (by have z_:=c16;simp only [ByteArray.size_append] at z_;first|exact z_|simpa using z_))
         replace H:=Option.bind_eq_some_iff.mp H
         obtain ⟨⟨t168,t169,t170,t171⟩,A170,H⟩:=H
         replace H : (if t171 = 0 then ((strings_Cut.f (t165.extract (x7_8 : Int).toNat t165.size) (⟨#[63]⟩ : ByteArray)).bind fun bt173 => ((target_all.f kj8 bt173.1 (⟨#[34,35,60,62,63,92,94,123,124,125,96]⟩ : ByteArray)).bind fun t176 => (if t176 = true then ((target_all.f kj8 bt173.2.1 (⟨#[34,35,60,62]⟩ : ByteArray)).bind fun t177 => (target_Parse.j1 kj8 bt173.1 bt173.2.1 bt173.2.2 (!t177) t168 t169 t170)) else (target_Parse.j1 kj8 bt173.1 bt173.2.1 bt173.2.2 true t168 t169 t170)))) else (some ((⟨#[]⟩ : ByteArray),(⟨#[]⟩ : ByteArray),0,(⟨#[]⟩ : ByteArray),(⟨#[]⟩ : ByteArray),t171))) = some (r1,r2,r3,r4,r5,r6):=H
         have A17:=Aside0.mk A170
         clear A170
         by_cases c18 : t171 = 0
         ·rw [if_pos c18] at H
          have c18b0 : (t171 == 0) = true:=beq_iff_eq.mpr c18
          have c18b1 : (t171 != 0) = false:=bne_eq_false_iff_eq.mpr c18
          clear c18
          have c19b0:=eq_true (of_decide_eq_true (by first|(with_reducible assumption)|assumption) : 0 ≤ x7_8)
          have c20b0:=eq_true (of_decide_eq_true (by first|(with_reducible assumption)|assumption) : x7_8 ≤ (t165.size : Int))
          replace H:=Option.bind_eq_some_iff.mp H
          obtain ⟨⟨t173,t174,t175⟩,A210,H⟩:=H
          replace H : ((target_all.f kj8 t173 (⟨#[34,35,60,62,63,92,94,123,124,125,96]⟩ : ByteArray)).bind fun t176 => (if t176 = true then ((target_all.f kj8 t174 (⟨#[34,35,60,62]⟩ : ByteArray)).bind fun t177 => (target_Parse.j1 kj8 t173 t174 t175 (!t177) t168 t169 t170)) else (target_Parse.j1 kj8 t173 t174 t175 true t168 t169 t170))) = some (r1,r2,r3,r4,r5,r6):=H
          have A21:=Aside0.mk A210
          clear A210
          have HC22:=Aside0.mk H
          clear H
          go_upto_region 14 with (first|((with_reducible refine gate_callee (f:=19) rfl ?_);refine goesL_ (some 46) rfl rfl Tryd.func19 (by kernel_rfl) rfl #[.string ((t164 ++ (⟨#[58,47,47]⟩ : ByteArray)) ++ (t165.extract 0 (x7_8 : Int).toNat))] rfl (by (try simp only [List.map_toArray,List.map_cons,List.map_nil]);first|done|rfl|(simp only [List.length_drop,List.length_take];rfl)) ?_;(with_reducible refine (origin_Parse.calls kj8 ((t164 ++ (⟨#[58,47,47]⟩ : ByteArray)) ++ (t165.extract 0 (x7_8 : Int).toNat)) t168 t169 t170 t171 _ ?side1 A17.out).mono ?_);(case side1 => exact ⟨by repeat (first|(with_reducible exact hM_.out)|(with_reducible exact LaidW.below hM_.out HB.out)|(with_reducible refine LaidW.alloc ?_ _)|(with_reducible refine LaidW.drewN ?_ _)|(with_reducible refine LaidW.drew ?_)|exact LaidW.below hM_.out (by repeat (first|(with_reducible first|exact HB.out|apply below_alloc|apply pw_below_drewN|apply below_drew1|refine below_set ?_ GE160.out)|exact HB.out)))⟩);rintro e w23 ⟨rfl,hb⟩;refine ⟨_,rfl,?_⟩;have n0_:=Aside0.mk (blk_below (g:=gb160) (o:=.cells #[.string (⟨#[]⟩ : ByteArray),.string (⟨#[]⟩ : ByteArray),.int .i64 0,.string (⟨#[]⟩ : ByteArray),.string (⟨#[]⟩ : ByteArray)] 44 (0,0)) (by (with_reducible repeat (first|refine blk_drewN ?_ _|refine blk_drew ?_|refine blk_alloc ?_ _));exact BK160.out) hb);have n1_:=Aside0.mk (below_step (by repeat (first|(with_reducible first|exact HB.out|apply below_alloc|apply pw_below_drewN|apply below_drew1|refine below_set ?_ GE160.out)|exact HB.out)) hb);clear BK160;clear HB;have BK160:=n0_;have HB:=n1_;clear n0_ n1_;(try clear hb);(try clear hb2);(try clear hk);(try clear hi))|((with_reducible refine gate_dst (N:=8) rfl ?_);refine box_event ?hg (N:=8) ?hd (cs:=#[.string (⟨#[]⟩ : ByteArray),.string (⟨#[]⟩ : ByteArray),.int .i64 0]) (t:=23) ?hr ?_;(case hd => rfl);(case hg => rfl);(case hr => first|(go_simp;done)|(go_simp;rfl));intro gb172 hg w24 hbox hb;have n0_:=Aside0.mk (blk_below (g:=gb160) (o:=.cells #[.string (⟨#[]⟩ : ByteArray),.string (⟨#[]⟩ : ByteArray),.int .i64 0,.string (⟨#[]⟩ : ByteArray),.string (⟨#[]⟩ : ByteArray)] 44 (0,0)) (by (with_reducible repeat (first|refine blk_drewN ?_ _|refine blk_drew ?_|refine blk_alloc ?_ _));exact BK160.out) hb);have n1_:=Aside0.mk (below_step (by repeat (first|(with_reducible first|exact HB.out|apply below_alloc|apply pw_below_drewN|apply below_drew1|refine below_set ?_ GE160.out)|exact HB.out)) hb);have n2_:=Aside0.mk (hbox);have n3_:=Aside0.mk ((by rw [hg];exact (below_size (by repeat (first|(with_reducible first|exact HB.out|apply below_alloc|apply pw_below_drewN|apply below_drew1|refine below_set ?_ GE160.out)|exact HB.out))) : w.heap.size ≤ gb172));have n4_:=Aside0.mk ((by rw [hg];exact (below_size (by repeat (first|(with_reducible first|exact HB.out|apply below_alloc|apply pw_below_drewN|apply below_drew1|refine below_set ?_ GE160.out)|exact HB.out))) : w.heap.size ≤ gb172));have n5_:=Aside0.mk ((by rw [hg];exact Nat.ne_of_lt (blk_lt (g:=gb160) (o:=.cells #[.string (⟨#[]⟩ : ByteArray),.string (⟨#[]⟩ : ByteArray),.int .i64 0,.string (⟨#[]⟩ : ByteArray),.string (⟨#[]⟩ : ByteArray)] 44 (0,0)) (by (with_reducible repeat (first|refine blk_drewN ?_ _|refine blk_drew ?_|refine blk_alloc ?_ _));exact BK160.out)) : gb160 ≠ gb172));have n6_:=Aside0.mk ((by rw [hg];exact Nat.ne_of_gt (blk_lt (g:=gb160) (o:=.cells #[.string (⟨#[]⟩ : ByteArray),.string (⟨#[]⟩ : ByteArray),.int .i64 0,.string (⟨#[]⟩ : ByteArray),.string (⟨#[]⟩ : ByteArray)] 44 (0,0)) (by (with_reducible repeat (first|refine blk_drewN ?_ _|refine blk_drew ?_|refine blk_alloc ?_ _));exact BK160.out)) : gb172 ≠ gb160));clear BK160;clear HB;have BK160:=n0_;have HB:=n1_;have BK172:=n2_;have GW172:=n3_;have GE172:=n4_;have NB160_172:=n5_;have NB172_160:=n6_;clear n0_ n1_ n2_ n3_ n4_ n5_ n6_;clear hb hbox hg;have hnb25:=NB172_160.out;have hnc25:=NB160_172.out;have hcz26_0 : w24.cell? ⟨gb172,0,none⟩ = some (.string (⟨#[]⟩ : ByteArray)):=(blk_cell BK172.out 0).trans rfl;have hcz26_1 : w24.cell? ⟨gb172,1,none⟩ = some (.string (⟨#[]⟩ : ByteArray)):=(blk_cell BK172.out 1).trans rfl;have hcz26_2 : w24.cell? ⟨gb172,2,none⟩ = some (.int .i64 0):=(blk_cell BK172.out 2).trans rfl;have hfz26_0:=blk_frozen BK172.out 0;have hfz26_1:=blk_frozen BK172.out 1;have hfz26_2:=blk_frozen BK172.out 2)|((with_reducible refine gate_callee (f:=44) rfl ?_);refine goesL_ (some 57) rfl rfl Tryd.func44 (by kernel_rfl) rfl #[.string (t165.extract (x7_8 : Int).toNat t165.size),.string (⟨#[63]⟩ : ByteArray)] rfl (by (try simp only [List.map_toArray,List.map_cons,List.map_nil]);first|done|rfl|(simp only [List.length_drop,List.length_take];rfl)) ?_;(with_reducible refine (strings_Cut.calls (t165.extract (x7_8 : Int).toNat t165.size) (⟨#[63]⟩ : ByteArray) t173 t174 t175 _ ?side1 A21.out).mono ?_);(case side1 => exact ⟨by repeat (first|(with_reducible exact hM_.out)|(with_reducible exact LaidW.below hM_.out HB.out)|(with_reducible refine LaidW.alloc ?_ _)|(with_reducible refine LaidW.drewN ?_ _)|(with_reducible refine LaidW.drew ?_)|exact LaidW.below hM_.out (by repeat (first|(with_reducible first|exact HB.out|apply below_alloc|apply pw_below_drewN|apply below_drew1|refine below_set ?_ GE160.out|refine below_set ?_ GE172.out)|exact HB.out)))⟩);rintro e w' ⟨rfl,⟨nd,rfl⟩⟩;refine ⟨_,rfl,?_⟩))
          (try simp only [Act.put,List.setIfInBounds_toArray,List.set_cons_zero,List.set_cons_succ])
          go_cut [68] (fun v68 wc => ∃ (kq : Nat) (x68_21 : Bool),v68 = .bool x68_21 ∧ Aside0 (target_Parse.j1 kq t173 t174 t175 x68_21 t168 t169 t170 = some (r1,r2,r3,r4,r5,r6)) ∧ Aside0 (kq ≤ kj8) ∧ Aside0 (wc.heap[gb160]? = some (.cells #[.string (⟨#[]⟩ : ByteArray),.string (⟨#[]⟩ : ByteArray),.int .i64 0,.string (⟨#[]⟩ : ByteArray),.string (⟨#[]⟩ : ByteArray)] 44 (0,0))) ∧ Aside0 (wc.heap[gb172]? = some (.cells #[.string t168,.string t169,.int .i64 t170] 23 (0,0))) ∧ Aside0 (Below w.heap.size w wc))
          case first =>
           have H:=HC22.out
           clear HC22
           replace H:=Option.bind_eq_some_iff.mp H
           obtain ⟨t176,A270,H⟩:=H
           replace H : (if t176 = true then ((target_all.f kj8 t174 (⟨#[34,35,60,62]⟩ : ByteArray)).bind fun t177 => (target_Parse.j1 kj8 t173 t174 t175 (!t177) t168 t169 t170)) else (target_Parse.j1 kj8 t173 t174 t175 true t168 t169 t170)) = some (r1,r2,r3,r4,r5,r6):=H
           have A27:=Aside0.mk A270
           clear A270
           by_cases c28 : t176 = true
           ·subst c28
            have H1 : ((target_all.f kj8 t174 (⟨#[34,35,60,62]⟩ : ByteArray)).bind fun t177 => (target_Parse.j1 kj8 t173 t174 t175 (!t177) t168 t169 t170)) = some (r1,r2,r3,r4,r5,r6):=by rw [if_pos rfl] at H;exact H
            clear H
            have H:=H1
            clear H1
            replace H:=Option.bind_eq_some_iff.mp H
            obtain ⟨t177,A290,H⟩:=H
            replace H : (target_Parse.j1 kj8 t173 t174 t175 (!t177) t168 t169 t170) = some (r1,r2,r3,r4,r5,r6):=H
            have A29:=Aside0.mk A290
            clear A290
            have H':=Aside0.mk H
            clear H
            go_wp2_with (first|((with_reducible refine gate_callee (f:=53) rfl ?_);refine goesL_ (some 62) rfl rfl Tryd.func53 (by kernel_rfl) rfl #[.string t173,.string (⟨#[34,35,60,62,63,92,94,123,124,125,96]⟩ : ByteArray)] rfl (by (try simp only [List.map_toArray,List.map_cons,List.map_nil]);first|done|rfl|(simp only [List.length_drop,List.length_take];rfl)) ?_;(with_reducible refine (target_all.calls kj8 t173 (⟨#[34,35,60,62,63,92,94,123,124,125,96]⟩ : ByteArray) true _ A27.out).mono ?_);rintro e w' ⟨rfl,⟨nd,rfl⟩⟩;refine ⟨_,rfl,?_⟩)|(go_at_call 53;(with_reducible refine (target_all.calls kj8 t174 (⟨#[34,35,60,62]⟩ : ByteArray) t177 _ A29.out).mono ?_);rintro e w' ⟨rfl,⟨nd,rfl⟩⟩))
            go_meet
            case rel => exact ⟨_,(!t177),(by first|rfl|(simp;done)|(simp [*];done)),H',⟨by have:=HJ8.out;first|omega|exact Nat.le_refl _⟩,⟨by (with_reducible repeat (first|refine blk_drewN ?_ _|refine blk_drew ?_|refine blk_alloc ?_ _));refine blk_far ?_ NB160_172.out _;(with_reducible repeat (first|refine blk_drewN ?_ _|refine blk_drew ?_|refine blk_alloc ?_ _));refine blk_far ?_ NB160_172.out _;(with_reducible repeat (first|refine blk_drewN ?_ _|refine blk_drew ?_|refine blk_alloc ?_ _));refine blk_far ?_ NB160_172.out _;(with_reducible repeat (first|refine blk_drewN ?_ _|refine blk_drew ?_|refine blk_alloc ?_ _));exact BK160.out⟩,⟨by (with_reducible repeat (first|refine blk_drewN ?_ _|refine blk_drew ?_|refine blk_alloc ?_ _));refine blk_put (cs:=#[.string t168,.string t169,.int .i64 0]) ?_ 2 _ rfl;(with_reducible repeat (first|refine blk_drewN ?_ _|refine blk_drew ?_|refine blk_alloc ?_ _));refine blk_put (cs:=#[.string t168,.string (⟨#[]⟩ : ByteArray),.int .i64 0]) ?_ 1 _ rfl;(with_reducible repeat (first|refine blk_drewN ?_ _|refine blk_drew ?_|refine blk_alloc ?_ _));refine blk_put (cs:=#[.string (⟨#[]⟩ : ByteArray),.string (⟨#[]⟩ : ByteArray),.int .i64 0]) ?_ 0 _ rfl;(with_reducible repeat (first|refine blk_drewN ?_ _|refine blk_drew ?_|refine blk_alloc ?_ _));exact BK172.out⟩,⟨by repeat (first|(with_reducible first|exact HB.out|apply below_alloc|apply pw_below_drewN|apply below_drew1|refine below_set ?_ GE160.out|refine below_set ?_ GE172.out)|exact HB.out)⟩⟩
           ·replace c28:=Bool.eq_false_iff.mpr c28
            subst c28
            have H1 : (target_Parse.j1 kj8 t173 t174 t175 true t168 t169 t170) = some (r1,r2,r3,r4,r5,r6):=by rw [if_neg (show ¬ (false = true) by decide)] at H;exact H
            clear H
            have H:=H1
            clear H1
            have H':=Aside0.mk H
            clear H
            go_wp2_with (first|((with_reducible refine gate_callee (f:=53) rfl ?_);refine goesL_ (some 62) rfl rfl Tryd.func53 (by kernel_rfl) rfl #[.string t173,.string (⟨#[34,35,60,62,63,92,94,123,124,125,96]⟩ : ByteArray)] rfl (by (try simp only [List.map_toArray,List.map_cons,List.map_nil]);first|done|rfl|(simp only [List.length_drop,List.length_take];rfl)) ?_;(with_reducible refine (target_all.calls kj8 t173 (⟨#[34,35,60,62,63,92,94,123,124,125,96]⟩ : ByteArray) false _ A27.out).mono ?_);rintro e w' ⟨rfl,⟨nd,rfl⟩⟩;refine ⟨_,rfl,?_⟩))
            go_meet
            case rel => exact ⟨_,(true),(by first|rfl|(simp;done)|(simp [*];done)),H',⟨by have:=HJ8.out;first|omega|exact Nat.le_refl _⟩,⟨by (with_reducible repeat (first|refine blk_drewN ?_ _|refine blk_drew ?_|refine blk_alloc ?_ _));refine blk_far ?_ NB160_172.out _;(with_reducible repeat (first|refine blk_drewN ?_ _|refine blk_drew ?_|refine blk_alloc ?_ _));refine blk_far ?_ NB160_172.out _;(with_reducible repeat (first|refine blk_drewN ?_ _|refine blk_drew ?_|refine blk_alloc ?_ _));refine blk_far ?_ NB160_172.out _;(with_reducible repeat (first|refine blk_drewN ?_ _|refine blk_drew ?_|refine blk_alloc ?_ _));exact BK160.out⟩,⟨by (with_reducible repeat (first|refine blk_drewN ?_ _|refine blk_drew ?_|refine blk_alloc ?_ _));refine blk_put (cs:=#[.string t168,.string t169,.int .i64 0]) ?_ 2 _ rfl;(with_reducible repeat (first|refine blk_drewN ?_ _|refine blk_drew ?_|refine blk_alloc ?_ _));refine blk_put (cs:=#[.string t168,.string (⟨#[]⟩ : ByteArray),.int .i64 0]) ?_ 1 _ rfl;(with_reducible repeat (first|refine blk_drewN ?_ _|refine blk_drew ?_|refine blk_alloc ?_ _));refine blk_put (cs:=#[.string (⟨#[]⟩ : ByteArray),.string (⟨#[]⟩ : ByteArray),.int .i64 0]) ?_ 0 _ rfl;(with_reducible repeat (first|refine blk_drewN ?_ _|refine blk_drew ?_|refine blk_alloc ?_ _));exact BK172.out⟩,⟨by repeat (first|(with_reducible first|exact HB.out|apply below_alloc|apply pw_below_drewN|apply below_drew1|refine below_set ?_ GE160.out|refine below_set ?_ GE172.out)|exact HB.out)⟩⟩
          case rest =>
           clear HC22
           try clear c1
           try clear c2
           try clear c2b0
           try clear c2b1
           try clear p2
           try clear c3
           try clear c4
           try clear c5
           try clear c7
           try clear c12
           try clear c12b0
           try clear c13
           try clear c13b0
           try clear c13b1
           try clear c13b2
           try clear c14
           try clear c14b0
           try clear c14b1
           try clear c15
           try clear c15b0
           try clear c15b1
           try clear c16
           try clear c16b0
           try clear c16b1
           try clear c16b2
           try clear c18
           try clear c18b0
           try clear c18b1
           try clear c19
           try clear c19b0
           try clear c20
           try clear c20b0
           try clear c25
           try clear c28
           try clear hcz26_0
           try clear hcz26_1
           try clear hcz26_2
           try clear hcz4_0
           try clear hcz4_1
           try clear hcz4_2
           try clear hcz4_3
           try clear hcz4_4
           try clear hfz26_0
           try clear hfz26_1
           try clear hfz26_2
           try clear hfz4_0
           try clear hfz4_1
           try clear hfz4_2
           try clear hfz4_3
           try clear hfz4_4
           try clear p2
           obtain ⟨kq,x68_21,rfl,HA,HJ21,BK160,BK172,HB⟩:=hcut
           cases kq with
           | zero => exact absurd HA.out (by simp [target_Parse.j1])
           | succ kj21 =>
            have H:=HA.out
            clear HA
            simp only [target_Parse.j1] at H
            by_cases c30 : x68_21 = true
            ·subst c30
             have H1 : (some ((⟨#[]⟩ : ByteArray),(⟨#[]⟩ : ByteArray),0,(⟨#[]⟩ : ByteArray),(⟨#[]⟩ : ByteArray),3)) = some (r1,r2,r3,r4,r5,r6):=by rw [if_pos rfl] at H;exact H
             clear H
             have H:=H1
             clear H1
             simp only [Option.some.injEq,Prod.mk.injEq] at H
             obtain ⟨rfl,rfl,rfl,rfl,rfl,rfl⟩:=H
             have hnb31:=NB160_172.out
             have hnc31:=NB172_160.out
             have hcz32_0 : wc.cell? ⟨gb160,0,none⟩ = some (.string (⟨#[]⟩ : ByteArray)):=(blk_cell BK160.out 0).trans rfl
             have hcz32_1 : wc.cell? ⟨gb160,1,none⟩ = some (.string (⟨#[]⟩ : ByteArray)):=(blk_cell BK160.out 1).trans rfl
             have hcz32_2 : wc.cell? ⟨gb160,2,none⟩ = some (.int .i64 0):=(blk_cell BK160.out 2).trans rfl
             have hcz32_3 : wc.cell? ⟨gb160,3,none⟩ = some (.string (⟨#[]⟩ : ByteArray)):=(blk_cell BK160.out 3).trans rfl
             have hcz32_4 : wc.cell? ⟨gb160,4,none⟩ = some (.string (⟨#[]⟩ : ByteArray)):=(blk_cell BK160.out 4).trans rfl
             have hfz32_0:=blk_frozen BK160.out 0
             have hfz32_1:=blk_frozen BK160.out 1
             have hfz32_2:=blk_frozen BK160.out 2
             have hfz32_3:=blk_frozen BK160.out 3
             have hfz32_4:=blk_frozen BK160.out 4
             go_wp2
             refine bodyPost_ret (results_ct rfl _ _ gb160 44 #[.string (⟨#[]⟩ : ByteArray),.string (⟨#[]⟩ : ByteArray),.int .i64 0,.string (⟨#[]⟩ : ByteArray),.string (⟨#[]⟩ : ByteArray)] (0,0) _ rfl (by (with_reducible repeat (first|refine blk_drewN ?_ _|refine blk_drew ?_|refine blk_alloc ?_ _));refine blk_put (cs:=#[.string (⟨#[]⟩ : ByteArray),.string (⟨#[]⟩ : ByteArray),.int .i64 0,.string (⟨#[]⟩ : ByteArray),.string (⟨#[]⟩ : ByteArray)]) ?_ 4 _ rfl;(with_reducible repeat (first|refine blk_drewN ?_ _|refine blk_drew ?_|refine blk_alloc ?_ _));refine blk_put (cs:=#[.string (⟨#[]⟩ : ByteArray),.string (⟨#[]⟩ : ByteArray),.int .i64 0,.string (⟨#[]⟩ : ByteArray),.string (⟨#[]⟩ : ByteArray)]) ?_ 3 _ rfl;(with_reducible repeat (first|refine blk_drewN ?_ _|refine blk_drew ?_|refine blk_alloc ?_ _));refine blk_put (cs:=#[.string (⟨#[]⟩ : ByteArray),.string (⟨#[]⟩ : ByteArray),.int .i64 0,.string (⟨#[]⟩ : ByteArray),.string (⟨#[]⟩ : ByteArray)]) ?_ 2 _ rfl;(with_reducible repeat (first|refine blk_drewN ?_ _|refine blk_drew ?_|refine blk_alloc ?_ _));refine blk_put (cs:=#[.string (⟨#[]⟩ : ByteArray),.string (⟨#[]⟩ : ByteArray),.int .i64 0,.string (⟨#[]⟩ : ByteArray),.string (⟨#[]⟩ : ByteArray)]) ?_ 1 _ rfl;(with_reducible repeat (first|refine blk_drewN ?_ _|refine blk_drew ?_|refine blk_alloc ?_ _));refine blk_put (cs:=#[.string (⟨#[]⟩ : ByteArray),.string (⟨#[]⟩ : ByteArray),.int .i64 0,.string (⟨#[]⟩ : ByteArray),.string (⟨#[]⟩ : ByteArray)]) ?_ 0 _ rfl;(with_reducible repeat (first|refine blk_drewN ?_ _|refine blk_drew ?_|refine blk_alloc ?_ _));exact BK160.out) Tryd.underlying44 rfl (by kernel_rfl)) rfl ?_
             exact ⟨by first|rfl|(simp [errW_none,errW_some] <;> rfl)|(simp [*,errW_none,errW_some] <;> rfl),by repeat (first|(with_reducible first|exact HB.out|apply below_alloc|apply pw_below_drewN|apply below_drew1|refine below_set ?_ GE160.out|refine below_set ?_ GE172.out)|exact HB.out)⟩
            ·replace c30:=Bool.eq_false_iff.mpr c30
             subst c30
             have H1 : ((target_Clean.f kj21 t173).bind fun t178 => (if t175 = true then (if 1 + t174.size ≤ 9223372036854775807 then ((target_show.f kj21 t168 t169 t170 t178 ((⟨#[63]⟩ : ByteArray) ++ t174)).bind fun t180 => (if (t180.size : Int) > 512 then (some ((⟨#[]⟩ : ByteArray),(⟨#[]⟩ : ByteArray),0,(⟨#[]⟩ : ByteArray),(⟨#[]⟩ : ByteArray),4)) else (some (t168,t169,t170,t178,(⟨#[63]⟩ : ByteArray) ++ t174,0)))) else (none)) else ((target_show.f kj21 t168 t169 t170 t178 (⟨#[]⟩ : ByteArray)).bind fun t181 => (if (t181.size : Int) > 512 then (some ((⟨#[]⟩ : ByteArray),(⟨#[]⟩ : ByteArray),0,(⟨#[]⟩ : ByteArray),(⟨#[]⟩ : ByteArray),4)) else (some (t168,t169,t170,t178,(⟨#[]⟩ : ByteArray),0)))))) = some (r1,r2,r3,r4,r5,r6):=by rw [if_neg (show ¬ (false = true) by decide)] at H;exact H
             clear H
             have H:=H1
             clear H1
             replace H:=Option.bind_eq_some_iff.mp H
             obtain ⟨t178,A330,H⟩:=H
             replace H : (if t175 = true then (if 1 + t174.size ≤ 9223372036854775807 then ((target_show.f kj21 t168 t169 t170 t178 ((⟨#[63]⟩ : ByteArray) ++ t174)).bind fun t180 => (if (t180.size : Int) > 512 then (some ((⟨#[]⟩ : ByteArray),(⟨#[]⟩ : ByteArray),0,(⟨#[]⟩ : ByteArray),(⟨#[]⟩ : ByteArray),4)) else (some (t168,t169,t170,t178,(⟨#[63]⟩ : ByteArray) ++ t174,0)))) else (none)) else ((target_show.f kj21 t168 t169 t170 t178 (⟨#[]⟩ : ByteArray)).bind fun t181 => (if (t181.size : Int) > 512 then (some ((⟨#[]⟩ : ByteArray),(⟨#[]⟩ : ByteArray),0,(⟨#[]⟩ : ByteArray),(⟨#[]⟩ : ByteArray),4)) else (some (t168,t169,t170,t178,(⟨#[]⟩ : ByteArray),0))))) = some (r1,r2,r3,r4,r5,r6):=H
             have A33:=Aside0.mk A330
             clear A330
             by_cases c34 : t175 = true
             ·subst c34
              have H1 : (if 1 + t174.size ≤ 9223372036854775807 then ((target_show.f kj21 t168 t169 t170 t178 ((⟨#[63]⟩ : ByteArray) ++ t174)).bind fun t180 => (if (t180.size : Int) > 512 then (some ((⟨#[]⟩ : ByteArray),(⟨#[]⟩ : ByteArray),0,(⟨#[]⟩ : ByteArray),(⟨#[]⟩ : ByteArray),4)) else (some (t168,t169,t170,t178,(⟨#[63]⟩ : ByteArray) ++ t174,0)))) else (none)) = some (r1,r2,r3,r4,r5,r6):=by rw [if_pos rfl] at H;exact H
              clear H
              have H:=H1
              clear H1
              by_cases c35 : 1 + t174.size ≤ 9223372036854775807
              ·rw [if_pos c35] at H
               have c35b0:=eq_true c35
               have c35b1 : decide (1 + t174.size ≤ 9223372036854775807) = true:=decide_eq_true c35
               try have c35b2 : (9223372036854775807 < 1 + t174.size) = False:=eq_false (Nat.not_lt.2 c35)
               replace H:=Option.bind_eq_some_iff.mp H
               obtain ⟨t180,A360,H⟩:=H
               replace H : (if (t180.size : Int) > 512 then (some ((⟨#[]⟩ : ByteArray),(⟨#[]⟩ : ByteArray),0,(⟨#[]⟩ : ByteArray),(⟨#[]⟩ : ByteArray),4)) else (some (t168,t169,t170,t178,(⟨#[63]⟩ : ByteArray) ++ t174,0))) = some (r1,r2,r3,r4,r5,r6):=H
               have A36:=Aside0.mk A360
               clear A360
               by_cases c37 : (t180.size : Int) > 512
               ·rw [if_pos c37] at H
                have c37b0 : decide (512 < (t180.size : Int)) = true:=decide_eq_true c37
                have c37b1 : decide (512 < t180.size) = true:=decide_eq_true (by omega)
                clear c37
                simp only [Option.some.injEq,Prod.mk.injEq] at H
                obtain ⟨rfl,rfl,rfl,rfl,rfl,rfl⟩:=H
                try go_wp2
                have n0_:=Aside0.mk (blk_drew BK160.out)
                have n1_:=Aside0.mk (blk_drew BK172.out)
                have n2_:=Aside0.mk (below_drew1 HB.out)
                clear BK160
                clear BK172
                clear HB
                have BK160:=n0_
                have BK172:=n1_
                have HB:=n2_
                clear n0_ n1_ n2_
                refine start_ (n:=6) (S:=fun w' => w'.cell? ⟨gb172,0,none⟩ = some (.string t168) ∧ w'.cell? ⟨gb172,1,none⟩ = some (.string t169) ∧ w'.cell? ⟨gb172,2,none⟩ = some (.int .i64 t170)) (ds:=[]) #[false,false,false,false,false,false] (by kernel_rfl) rfl rfl ⟨(blk_cell BK172.out 0).trans rfl,(blk_cell BK172.out 1).trans rfl,(blk_cell BK172.out 2).trans rfl⟩ (fun hHeld => ?_)
                generalize wc.drew = w38 at BK160 BK172 HB hHeld ⊢
                refine pure_ (i:=1) (N:=some 71) (v:=?_) (a':=?_) #[false,true,false,false,false,false] rfl rfl (by kernel_rfl) (fun _ _ _ h => h) (Or.inl ⟨by rfl,?_⟩) ?_ ?_
                rotate_left
                ·intro w'
                 go_simp
                 with_reducible rfl
                rotate_left
                ·simp only [Act.put,List.setIfInBounds_toArray,List.set_cons_zero,List.set_cons_succ,i64_w,i32_w]
                 rfl
                refine take_ (i:=0) (N:=some 70) (v:=?_) (a':=?_) #[true,true,false,false,false,false] rfl rfl (by kernel_rfl) (fun _ _ _ h => h) (Or.inl ⟨by rfl,?_⟩) hHeld ?_ ?_
                rotate_left
                ·rintro w' ⟨s0,s1,s2⟩
                 go_simp
                 with_reducible rfl
                rotate_left
                ·simp only [Act.put,List.setIfInBounds_toArray,List.set_cons_zero,List.set_cons_succ,i64_w,i32_w]
                 rfl
                refine join_ (σ:=Nat) 1 #[true,true,true,true,true,false] (fun s_ => [(72,.string t178),(13,.pointer (some ⟨s_,0,none⟩)),(73,.agg #[.string t168,.string t169,.int .i64 t170,.string t178,.string (⟨#[]⟩ : ByteArray)])]) (fun s_ w' => (w'.cell? ⟨gb172,0,none⟩ = some (.string t168) ∧ w'.cell? ⟨gb172,1,none⟩ = some (.string t169) ∧ w'.cell? ⟨gb172,2,none⟩ = some (.int .i64 t170)) ∧ (w'.heap[gb160]? = some (.cells #[.string (⟨#[]⟩ : ByteArray),.string (⟨#[]⟩ : ByteArray),.int .i64 0,.string (⟨#[]⟩ : ByteArray),.string (⟨#[]⟩ : ByteArray)] 44 (0,0))) ∧ (w'.heap[gb172]? = some (.cells #[.string t168,.string t169,.int .i64 t170] 23 (0,0))) ∧ (w'.heap[s_]? = some (.cells #[.string (⟨#[]⟩ : ByteArray),.string (⟨#[]⟩ : ByteArray),.int .i64 0,.string (⟨#[]⟩ : ByteArray),.string (⟨#[]⟩ : ByteArray)] 44 (0,0))) ∧ (w.heap.size ≤ s_) ∧ (w.heap.size ≤ s_) ∧ (gb160 ≠ s_) ∧ (s_ ≠ gb160) ∧ (gb172 ≠ s_) ∧ (s_ ≠ gb172) ∧ (Below w.heap.size w w')) ?_ ?_
                rotate_left
                ·intro hCont
                 refine two_ (i:=2) (j:=4) (Ni:=some 72) (Nj:=some 13) #[true,true,true,false,false,false] #[true,true,false,false,true,false] rfl rfl rfl rfl (by kernel_rfl) (by decide) (by decide) (fun K hK => ?_) (fun K hK => ?_)
                 ·skip
                  refine goes_ Tryd.func36 (by kernel_rfl) rfl #[.string t173] (by rfl) rfl rfl (by (try simp only [List.map_toArray,List.map_cons,List.map_nil]);first|done|rfl|(simp only [List.length_drop,List.length_take];rfl)) ?_
                  with_reducible refine (target_Clean.calls kj21 t173 t178 _ A33.out).mono ?_
                  rintro e w39 ⟨rfl,hb⟩
                  refine ⟨_,rfl,?_⟩
                  have n0_:=Aside0.mk (blk_below (g:=gb160) (o:=.cells #[.string (⟨#[]⟩ : ByteArray),.string (⟨#[]⟩ : ByteArray),.int .i64 0,.string (⟨#[]⟩ : ByteArray),.string (⟨#[]⟩ : ByteArray)] 44 (0,0)) (by (with_reducible repeat (first|refine blk_drewN ?_ _|refine blk_drew ?_|refine blk_alloc ?_ _));exact BK160.out) hb)
                  have n1_:=Aside0.mk (blk_below (g:=gb172) (o:=.cells #[.string t168,.string t169,.int .i64 t170] 23 (0,0)) (by (with_reducible repeat (first|refine blk_drewN ?_ _|refine blk_drew ?_|refine blk_alloc ?_ _));exact BK172.out) hb)
                  have n2_:=Aside0.mk (below_step (by repeat (first|(with_reducible first|exact HB.out|apply below_alloc|apply pw_below_drewN|apply below_drew1|refine below_set ?_ GE160.out|refine below_set ?_ GE172.out)|exact HB.out)) hb)
                  clear BK160
                  clear BK172
                  clear HB
                  have BK160:=n0_
                  have BK172:=n1_
                  have HB:=n2_
                  clear n0_ n1_ n2_
                  (try clear hb)
                  (try clear hb2)
                  (try clear hk)
                  (try clear hi)
                  refine hK.out _ _ ⟨(blk_cell BK172.out 0).trans rfl,(blk_cell BK172.out 1).trans rfl,(blk_cell BK172.out 2).trans rfl⟩ (fun hHeld => ?_)
                  clear hK K
                  refine norm_ (a':=?_) ?_ ?_
                  rotate_left
                  ·show Act.put _ (some 72) _ = _
                   simp only [Act.put,List.setIfInBounds_toArray,List.set_cons_zero,List.set_cons_succ,i64_w,i32_w]
                   rfl
                  refine pure_ (i:=3) (N:=some 73) (v:=?_) (a':=?_) #[true,true,true,true,false,false] rfl rfl (by kernel_rfl) (fun _ _ _ h => h) (Or.inl ⟨by rfl,?_⟩) ?_ ?_
                  rotate_left
                  ·intro w'
                   go_simp
                   with_reducible rfl
                  rotate_left
                  ·simp only [Act.put,List.setIfInBounds_toArray,List.set_cons_zero,List.set_cons_succ,i64_w,i32_w]
                   rfl
                  refine one_ (i:=4) (N:=some 13) #[true,true,true,true,true,false] rfl rfl (by kernel_rfl) (by decide) (fun K hK => ?_)
                  refine box_step ?hg (N:=13) ?hd (cs:=#[.string (⟨#[]⟩ : ByteArray),.string (⟨#[]⟩ : ByteArray),.int .i64 0,.string (⟨#[]⟩ : ByteArray),.string (⟨#[]⟩ : ByteArray)]) (t:=44) ?hr ?_;(case hd => rfl);(case hg => rfl);(case hr => first|(go_simp;done)|(go_simp;rfl))
                  intro gb179 hg w40 hbox hb
                  have n0_:=Aside0.mk (blk_below (g:=gb160) (o:=.cells #[.string (⟨#[]⟩ : ByteArray),.string (⟨#[]⟩ : ByteArray),.int .i64 0,.string (⟨#[]⟩ : ByteArray),.string (⟨#[]⟩ : ByteArray)] 44 (0,0)) (by (with_reducible repeat (first|refine blk_drewN ?_ _|refine blk_drew ?_|refine blk_alloc ?_ _));exact BK160.out) hb)
                  have n1_:=Aside0.mk (blk_below (g:=gb172) (o:=.cells #[.string t168,.string t169,.int .i64 t170] 23 (0,0)) (by (with_reducible repeat (first|refine blk_drewN ?_ _|refine blk_drew ?_|refine blk_alloc ?_ _));exact BK172.out) hb)
                  have n2_:=Aside0.mk (below_step (by repeat (first|(with_reducible first|exact HB.out|apply below_alloc|apply pw_below_drewN|apply below_drew1|refine below_set ?_ GE160.out|refine below_set ?_ GE172.out)|exact HB.out)) hb)
                  have n3_:=Aside0.mk (hbox)
                  have n4_:=Aside0.mk ((by rw [hg];exact (below_size (by repeat (first|(with_reducible first|exact HB.out|apply below_alloc|apply pw_below_drewN|apply below_drew1|refine below_set ?_ GE160.out|refine below_set ?_ GE172.out)|exact HB.out))) : w.heap.size ≤ gb179))
                  have n5_:=Aside0.mk ((by rw [hg];exact (below_size (by repeat (first|(with_reducible first|exact HB.out|apply below_alloc|apply pw_below_drewN|apply below_drew1|refine below_set ?_ GE160.out|refine below_set ?_ GE172.out)|exact HB.out))) : w.heap.size ≤ gb179))
                  have n6_:=Aside0.mk ((by rw [hg];exact Nat.ne_of_lt (blk_lt (g:=gb160) (o:=.cells #[.string (⟨#[]⟩ : ByteArray),.string (⟨#[]⟩ : ByteArray),.int .i64 0,.string (⟨#[]⟩ : ByteArray),.string (⟨#[]⟩ : ByteArray)] 44 (0,0)) (by (with_reducible repeat (first|refine blk_drewN ?_ _|refine blk_drew ?_|refine blk_alloc ?_ _));exact BK160.out)) : gb160 ≠ gb179))
                  have n7_:=Aside0.mk ((by rw [hg];exact Nat.ne_of_gt (blk_lt (g:=gb160) (o:=.cells #[.string (⟨#[]⟩ : ByteArray),.string (⟨#[]⟩ : ByteArray),.int .i64 0,.string (⟨#[]⟩ : ByteArray),.string (⟨#[]⟩ : ByteArray)] 44 (0,0)) (by (with_reducible repeat (first|refine blk_drewN ?_ _|refine blk_drew ?_|refine blk_alloc ?_ _));exact BK160.out)) : gb179 ≠ gb160))
                  have n8_:=Aside0.mk ((by rw [hg];exact Nat.ne_of_lt (blk_lt (g:=gb172) (o:=.cells #[.string t168,.string t169,.int .i64 t170] 23 (0,0)) (by (with_reducible repeat (first|refine blk_drewN ?_ _|refine blk_drew ?_|refine blk_alloc ?_ _));exact BK172.out)) : gb172 ≠ gb179))
                  have n9_:=Aside0.mk ((by rw [hg];exact Nat.ne_of_gt (blk_lt (g:=gb172) (o:=.cells #[.string t168,.string t169,.int .i64 t170] 23 (0,0)) (by (with_reducible repeat (first|refine blk_drewN ?_ _|refine blk_drew ?_|refine blk_alloc ?_ _));exact BK172.out)) : gb179 ≠ gb172))
                  clear BK160
                  clear BK172
                  clear HB
                  have BK160:=n0_
                  have BK172:=n1_
                  have HB:=n2_
                  have BK179:=n3_
                  have GW179:=n4_
                  have GE179:=n5_
                  have NB160_179:=n6_
                  have NB179_160:=n7_
                  have NB172_179:=n8_
                  have NB179_172:=n9_
                  clear n0_ n1_ n2_ n3_ n4_ n5_ n6_ n7_ n8_ n9_
                  clear hb hbox hg
                  refine hK.out _ _ ⟨(blk_cell BK172.out 0).trans rfl,(blk_cell BK172.out 1).trans rfl,(blk_cell BK172.out 2).trans rfl⟩ (fun hHeld => ?_)
                  clear hK K
                  refine norm_ (a':=?_) ?_ ?_
                  rotate_left
                  ·show Act.put _ (some 13) _ = _
                   simp only [Act.put,List.setIfInBounds_toArray,List.set_cons_zero,List.set_cons_succ,i64_w,i32_w]
                   rfl
                  exact norm_ (by simp only [putAll,Act.put,List.setIfInBounds_toArray,List.set_cons_zero,List.set_cons_succ]) (hCont (gb179) _ ⟨hHeld,(by (with_reducible repeat (first|refine blk_drewN ?_ _|refine blk_drew ?_|refine blk_alloc ?_ _));exact BK160.out),(by (with_reducible repeat (first|refine blk_drewN ?_ _|refine blk_drew ?_|refine blk_alloc ?_ _));exact BK172.out),(by (with_reducible repeat (first|refine blk_drewN ?_ _|refine blk_drew ?_|refine blk_alloc ?_ _));exact BK179.out),GW179.out,GE179.out,NB160_179.out,NB179_160.out,NB172_179.out,NB179_172.out,(by repeat (first|(with_reducible first|exact HB.out|apply below_alloc|apply pw_below_drewN|apply below_drew1|refine below_set ?_ GE160.out|refine below_set ?_ GE172.out|refine below_set ?_ GE179.out)|exact HB.out))⟩)
                 ·skip
                  refine box_step ?hg (N:=13) ?hd (cs:=#[.string (⟨#[]⟩ : ByteArray),.string (⟨#[]⟩ : ByteArray),.int .i64 0,.string (⟨#[]⟩ : ByteArray),.string (⟨#[]⟩ : ByteArray)]) (t:=44) ?hr ?_;(case hd => rfl);(case hg => rfl);(case hr => first|(go_simp;done)|(go_simp;rfl))
                  intro gb179 hg w39 hbox hb
                  have n0_:=Aside0.mk (blk_below (g:=gb160) (o:=.cells #[.string (⟨#[]⟩ : ByteArray),.string (⟨#[]⟩ : ByteArray),.int .i64 0,.string (⟨#[]⟩ : ByteArray),.string (⟨#[]⟩ : ByteArray)] 44 (0,0)) (by (with_reducible repeat (first|refine blk_drewN ?_ _|refine blk_drew ?_|refine blk_alloc ?_ _));exact BK160.out) hb)
                  have n1_:=Aside0.mk (blk_below (g:=gb172) (o:=.cells #[.string t168,.string t169,.int .i64 t170] 23 (0,0)) (by (with_reducible repeat (first|refine blk_drewN ?_ _|refine blk_drew ?_|refine blk_alloc ?_ _));exact BK172.out) hb)
                  have n2_:=Aside0.mk (below_step (by repeat (first|(with_reducible first|exact HB.out|apply below_alloc|apply pw_below_drewN|apply below_drew1|refine below_set ?_ GE160.out|refine below_set ?_ GE172.out)|exact HB.out)) hb)
                  have n3_:=Aside0.mk (hbox)
                  have n4_:=Aside0.mk ((by rw [hg];exact (below_size (by repeat (first|(with_reducible first|exact HB.out|apply below_alloc|apply pw_below_drewN|apply below_drew1|refine below_set ?_ GE160.out|refine below_set ?_ GE172.out)|exact HB.out))) : w.heap.size ≤ gb179))
                  have n5_:=Aside0.mk ((by rw [hg];exact (below_size (by repeat (first|(with_reducible first|exact HB.out|apply below_alloc|apply pw_below_drewN|apply below_drew1|refine below_set ?_ GE160.out|refine below_set ?_ GE172.out)|exact HB.out))) : w.heap.size ≤ gb179))
                  have n6_:=Aside0.mk ((by rw [hg];exact Nat.ne_of_lt (blk_lt (g:=gb160) (o:=.cells #[.string (⟨#[]⟩ : ByteArray),.string (⟨#[]⟩ : ByteArray),.int .i64 0,.string (⟨#[]⟩ : ByteArray),.string (⟨#[]⟩ : ByteArray)] 44 (0,0)) (by (with_reducible repeat (first|refine blk_drewN ?_ _|refine blk_drew ?_|refine blk_alloc ?_ _));exact BK160.out)) : gb160 ≠ gb179))
                  have n7_:=Aside0.mk ((by rw [hg];exact Nat.ne_of_gt (blk_lt (g:=gb160) (o:=.cells #[.string (⟨#[]⟩ : ByteArray),.string (⟨#[]⟩ : ByteArray),.int .i64 0,.string (⟨#[]⟩ : ByteArray),.string (⟨#[]⟩ : ByteArray)] 44 (0,0)) (by (with_reducible repeat (first|refine blk_drewN ?_ _|refine blk_drew ?_|refine blk_alloc ?_ _));exact BK160.out)) : gb179 ≠ gb160))
                  have n8_:=Aside0.mk ((by rw [hg];exact Nat.ne_of_lt (blk_lt (g:=gb172) (o:=.cells #[.string t168,.string t169,.int .i64 t170] 23 (0,0)) (by (with_reducible repeat (first|refine blk_drewN ?_ _|refine blk_drew ?_|refine blk_alloc ?_ _));exact BK172.out)) : gb172 ≠ gb179))
                  have n9_:=Aside0.mk ((by rw [hg];exact Nat.ne_of_gt (blk_lt (g:=gb172) (o:=.cells #[.string t168,.string t169,.int .i64 t170] 23 (0,0)) (by (with_reducible repeat (first|refine blk_drewN ?_ _|refine blk_drew ?_|refine blk_alloc ?_ _));exact BK172.out)) : gb179 ≠ gb172))
                  clear BK160
                  clear BK172
                  clear HB
                  have BK160:=n0_
                  have BK172:=n1_
                  have HB:=n2_
                  have BK179:=n3_
                  have GW179:=n4_
                  have GE179:=n5_
                  have NB160_179:=n6_
                  have NB179_160:=n7_
                  have NB172_179:=n8_
                  have NB179_172:=n9_
                  clear n0_ n1_ n2_ n3_ n4_ n5_ n6_ n7_ n8_ n9_
                  clear hb hbox hg
                  refine hK.out _ _ ⟨(blk_cell BK172.out 0).trans rfl,(blk_cell BK172.out 1).trans rfl,(blk_cell BK172.out 2).trans rfl⟩ (fun hHeld => ?_)
                  clear hK K
                  refine norm_ (a':=?_) ?_ ?_
                  rotate_left
                  ·show Act.put _ (some 13) _ = _
                   simp only [Act.put,List.setIfInBounds_toArray,List.set_cons_zero,List.set_cons_succ,i64_w,i32_w]
                   rfl
                  refine one_ (i:=2) (N:=some 72) #[true,true,true,false,true,false] rfl rfl (by kernel_rfl) (by decide) (fun K hK => ?_)
                  refine goes_ Tryd.func36 (by kernel_rfl) rfl #[.string t173] (by rfl) rfl rfl (by (try simp only [List.map_toArray,List.map_cons,List.map_nil]);first|done|rfl|(simp only [List.length_drop,List.length_take];rfl)) ?_
                  with_reducible refine (target_Clean.calls kj21 t173 t178 _ A33.out).mono ?_
                  rintro e w40 ⟨rfl,hb⟩
                  refine ⟨_,rfl,?_⟩
                  have n0_:=Aside0.mk (blk_below (g:=gb160) (o:=.cells #[.string (⟨#[]⟩ : ByteArray),.string (⟨#[]⟩ : ByteArray),.int .i64 0,.string (⟨#[]⟩ : ByteArray),.string (⟨#[]⟩ : ByteArray)] 44 (0,0)) (by (with_reducible repeat (first|refine blk_drewN ?_ _|refine blk_drew ?_|refine blk_alloc ?_ _));exact BK160.out) hb)
                  have n1_:=Aside0.mk (blk_below (g:=gb172) (o:=.cells #[.string t168,.string t169,.int .i64 t170] 23 (0,0)) (by (with_reducible repeat (first|refine blk_drewN ?_ _|refine blk_drew ?_|refine blk_alloc ?_ _));exact BK172.out) hb)
                  have n2_:=Aside0.mk (blk_below (g:=gb179) (o:=.cells #[.string (⟨#[]⟩ : ByteArray),.string (⟨#[]⟩ : ByteArray),.int .i64 0,.string (⟨#[]⟩ : ByteArray),.string (⟨#[]⟩ : ByteArray)] 44 (0,0)) (by (with_reducible repeat (first|refine blk_drewN ?_ _|refine blk_drew ?_|refine blk_alloc ?_ _));exact BK179.out) hb)
                  have n3_:=Aside0.mk (below_step (by repeat (first|(with_reducible first|exact HB.out|apply below_alloc|apply pw_below_drewN|apply below_drew1|refine below_set ?_ GE160.out|refine below_set ?_ GE172.out|refine below_set ?_ GE179.out)|exact HB.out)) hb)
                  clear BK160
                  clear BK172
                  clear BK179
                  clear HB
                  have BK160:=n0_
                  have BK172:=n1_
                  have BK179:=n2_
                  have HB:=n3_
                  clear n0_ n1_ n2_ n3_
                  (try clear hb)
                  (try clear hb2)
                  (try clear hk)
                  (try clear hi)
                  refine hK.out _ _ ⟨(blk_cell BK172.out 0).trans rfl,(blk_cell BK172.out 1).trans rfl,(blk_cell BK172.out 2).trans rfl⟩ (fun hHeld => ?_)
                  clear hK K
                  refine norm_ (a':=?_) ?_ ?_
                  rotate_left
                  ·show Act.put _ (some 72) _ = _
                   simp only [Act.put,List.setIfInBounds_toArray,List.set_cons_zero,List.set_cons_succ,i64_w,i32_w]
                   rfl
                  refine pure_ (i:=3) (N:=some 73) (v:=?_) (a':=?_) #[true,true,true,true,true,false] rfl rfl (by kernel_rfl) (fun _ _ _ h => h) (Or.inl ⟨by rfl,?_⟩) ?_ ?_
                  rotate_left
                  ·intro w'
                   go_simp
                   with_reducible rfl
                  rotate_left
                  ·simp only [Act.put,List.setIfInBounds_toArray,List.set_cons_zero,List.set_cons_succ,i64_w,i32_w]
                   rfl
                  exact norm_ (by simp only [putAll,Act.put,List.setIfInBounds_toArray,List.set_cons_zero,List.set_cons_succ]) (hCont (gb179) _ ⟨hHeld,(by (with_reducible repeat (first|refine blk_drewN ?_ _|refine blk_drew ?_|refine blk_alloc ?_ _));exact BK160.out),(by (with_reducible repeat (first|refine blk_drewN ?_ _|refine blk_drew ?_|refine blk_alloc ?_ _));exact BK172.out),(by (with_reducible repeat (first|refine blk_drewN ?_ _|refine blk_drew ?_|refine blk_alloc ?_ _));exact BK179.out),GW179.out,GE179.out,NB160_179.out,NB179_160.out,NB172_179.out,NB179_172.out,(by repeat (first|(with_reducible first|exact HB.out|apply below_alloc|apply pw_below_drewN|apply below_drew1|refine below_set ?_ GE160.out|refine below_set ?_ GE172.out|refine below_set ?_ GE179.out)|exact HB.out))⟩)
                rintro gb179 w41 ⟨hS_,h0_,h1_,h2_,h3_,h4_,h5_,h6_,h7_,h8_,h9_⟩
                have n0_ : Aside0 (w41.heap[gb160]? = some (.cells #[.string (⟨#[]⟩ : ByteArray),.string (⟨#[]⟩ : ByteArray),.int .i64 0,.string (⟨#[]⟩ : ByteArray),.string (⟨#[]⟩ : ByteArray)] 44 (0,0))):=⟨h0_⟩
                have n1_ : Aside0 (w41.heap[gb172]? = some (.cells #[.string t168,.string t169,.int .i64 t170] 23 (0,0))):=⟨h1_⟩
                have n2_ : Aside0 (w41.heap[gb179]? = some (.cells #[.string (⟨#[]⟩ : ByteArray),.string (⟨#[]⟩ : ByteArray),.int .i64 0,.string (⟨#[]⟩ : ByteArray),.string (⟨#[]⟩ : ByteArray)] 44 (0,0))):=⟨h2_⟩
                have n3_ : Aside0 (w.heap.size ≤ gb179):=⟨h3_⟩
                have n4_ : Aside0 (w.heap.size ≤ gb179):=⟨h4_⟩
                have n5_ : Aside0 (gb160 ≠ gb179):=⟨h5_⟩
                have n6_ : Aside0 (gb179 ≠ gb160):=⟨h6_⟩
                have n7_ : Aside0 (gb172 ≠ gb179):=⟨h7_⟩
                have n8_ : Aside0 (gb179 ≠ gb172):=⟨h8_⟩
                have n9_ : Aside0 (Below w.heap.size w w41):=⟨h9_⟩
                clear BK160
                clear BK172
                clear HB
                clear h0_ h1_ h2_ h3_ h4_ h5_ h6_ h7_ h8_ h9_
                have BK160:=n0_
                have BK172:=n1_
                have BK179:=n2_
                have GW179:=n3_
                have GE179:=n4_
                have NB160_179:=n5_
                have NB179_160:=n6_
                have NB172_179:=n7_
                have NB179_172:=n8_
                have HB:=n9_
                clear n0_ n1_ n2_ n3_ n4_ n5_ n6_ n7_ n8_ n9_
                have hHeld : w41.cell? ⟨gb172,0,none⟩ = some (.string t168) ∧ w41.cell? ⟨gb172,1,none⟩ = some (.string t169) ∧ w41.cell? ⟨gb172,2,none⟩ = some (.int .i64 t170):=hS_
                refine norm_ (a':=?_) ?_ ?_
                rotate_left
                ·simp only [putAll,Act.put,List.setIfInBounds_toArray,List.set_cons_zero,List.set_cons_succ]
                 rfl
                refine one_ (i:=5) (N:=none) #[true,true,true,true,true,true] rfl rfl (by kernel_rfl) (by decide) (fun K hK => ?_)
                have hs42 : w41.cell? ⟨gb179,0,none⟩ = some (.string (⟨#[]⟩ : ByteArray)):=(blk_cell BK179.out 0).trans rfl
                have hfs42:=blk_frozen BK179.out 0
                have hns42_0:=NB160_179.out
                have hns42_1:=NB172_179.out
                have hms42_0:=NB179_160.out
                have hms42_1:=NB179_172.out
                have hs43 : w41.cell? ⟨gb179,1,none⟩ = some (.string (⟨#[]⟩ : ByteArray)):=(blk_cell BK179.out 1).trans rfl
                have hfs43:=blk_frozen BK179.out 1
                have hns43_0:=NB160_179.out
                have hns43_1:=NB172_179.out
                have hms43_0:=NB179_160.out
                have hms43_1:=NB179_172.out
                have hs44 : w41.cell? ⟨gb179,2,none⟩ = some (.int .i64 0):=(blk_cell BK179.out 2).trans rfl
                have hfs44:=blk_frozen BK179.out 2
                have hns44_0:=NB160_179.out
                have hns44_1:=NB172_179.out
                have hms44_0:=NB179_160.out
                have hms44_1:=NB179_172.out
                have hs45 : w41.cell? ⟨gb179,3,none⟩ = some (.string (⟨#[]⟩ : ByteArray)):=(blk_cell BK179.out 3).trans rfl
                have hfs45:=blk_frozen BK179.out 3
                have hns45_0:=NB160_179.out
                have hns45_1:=NB172_179.out
                have hms45_0:=NB179_160.out
                have hms45_1:=NB179_172.out
                have hs46 : w41.cell? ⟨gb179,4,none⟩ = some (.string (⟨#[]⟩ : ByteArray)):=(blk_cell BK179.out 4).trans rfl
                have hfs46:=blk_frozen BK179.out 4
                have hns46_0:=NB160_179.out
                have hns46_1:=NB172_179.out
                have hms46_0:=NB179_160.out
                have hms46_1:=NB179_172.out
                refine skip_ (w1:=?_) (by rfl) rfl ?_ ?_
                rotate_left
                ·go_simp
                 rfl
                refine hK.out _ _ ⟨((cell_far (p:=⟨gb179,_,none⟩) NB172_179.out _).trans (((cell_far (p:=⟨gb179,_,none⟩) NB172_179.out _).trans (((cell_far (p:=⟨gb179,_,none⟩) NB172_179.out _).trans (((cell_far (p:=⟨gb179,_,none⟩) NB172_179.out _).trans (((cell_far (p:=⟨gb179,_,none⟩) NB172_179.out _).trans (hHeld.1)))))))))),((cell_far (p:=⟨gb179,_,none⟩) NB172_179.out _).trans (((cell_far (p:=⟨gb179,_,none⟩) NB172_179.out _).trans (((cell_far (p:=⟨gb179,_,none⟩) NB172_179.out _).trans (((cell_far (p:=⟨gb179,_,none⟩) NB172_179.out _).trans (((cell_far (p:=⟨gb179,_,none⟩) NB172_179.out _).trans (hHeld.2.1)))))))))),((cell_far (p:=⟨gb179,_,none⟩) NB172_179.out _).trans (((cell_far (p:=⟨gb179,_,none⟩) NB172_179.out _).trans (((cell_far (p:=⟨gb179,_,none⟩) NB172_179.out _).trans (((cell_far (p:=⟨gb179,_,none⟩) NB172_179.out _).trans (((cell_far (p:=⟨gb179,_,none⟩) NB172_179.out _).trans (hHeld.2.2))))))))))⟩ (fun hHeld => ?_)
                clear hK K
                refine done_ (by kernel_rfl) ?_
                have hnb47:=NB179_160.out
                have hnc47:=NB160_179.out
                have hnb48:=NB179_172.out
                have hnc48:=NB172_179.out
                have hcz49_0 : w41.cell? ⟨gb179,0,none⟩ = some (.string (⟨#[]⟩ : ByteArray)):=(blk_cell BK179.out 0).trans rfl
                have hcz49_1 : w41.cell? ⟨gb179,1,none⟩ = some (.string (⟨#[]⟩ : ByteArray)):=(blk_cell BK179.out 1).trans rfl
                have hcz49_2 : w41.cell? ⟨gb179,2,none⟩ = some (.int .i64 0):=(blk_cell BK179.out 2).trans rfl
                have hcz49_3 : w41.cell? ⟨gb179,3,none⟩ = some (.string (⟨#[]⟩ : ByteArray)):=(blk_cell BK179.out 3).trans rfl
                have hcz49_4 : w41.cell? ⟨gb179,4,none⟩ = some (.string (⟨#[]⟩ : ByteArray)):=(blk_cell BK179.out 4).trans rfl
                have hfz49_0:=blk_frozen BK179.out 0
                have hfz49_1:=blk_frozen BK179.out 1
                have hfz49_2:=blk_frozen BK179.out 2
                have hfz49_3:=blk_frozen BK179.out 3
                have hfz49_4:=blk_frozen BK179.out 4
                have z160_ : Aside0 ((((((w41.setCell ⟨gb179,0,none⟩ (.string t168)).setCell ⟨gb179,1,none⟩ (.string t169)).setCell ⟨gb179,2,none⟩ (.int .i64 t170)).setCell ⟨gb179,3,none⟩ (.string t178)).setCell ⟨gb179,4,none⟩ (.string (⟨#[]⟩ : ByteArray))).heap[gb160]? = some (.cells #[.string (⟨#[]⟩ : ByteArray),.string (⟨#[]⟩ : ByteArray),.int .i64 0,.string (⟨#[]⟩ : ByteArray),.string (⟨#[]⟩ : ByteArray)] 44 (0,0))):=⟨by refine blk_far ?_ NB160_179.out _;refine blk_far ?_ NB160_179.out _;refine blk_far ?_ NB160_179.out _;refine blk_far ?_ NB160_179.out _;refine blk_far ?_ NB160_179.out _;exact BK160.out⟩
                have z172_ : Aside0 ((((((w41.setCell ⟨gb179,0,none⟩ (.string t168)).setCell ⟨gb179,1,none⟩ (.string t169)).setCell ⟨gb179,2,none⟩ (.int .i64 t170)).setCell ⟨gb179,3,none⟩ (.string t178)).setCell ⟨gb179,4,none⟩ (.string (⟨#[]⟩ : ByteArray))).heap[gb172]? = some (.cells #[.string t168,.string t169,.int .i64 t170] 23 (0,0))):=⟨by refine blk_far ?_ NB172_179.out _;refine blk_far ?_ NB172_179.out _;refine blk_far ?_ NB172_179.out _;refine blk_far ?_ NB172_179.out _;refine blk_far ?_ NB172_179.out _;exact BK172.out⟩
                have z179_ : Aside0 ((((((w41.setCell ⟨gb179,0,none⟩ (.string t168)).setCell ⟨gb179,1,none⟩ (.string t169)).setCell ⟨gb179,2,none⟩ (.int .i64 t170)).setCell ⟨gb179,3,none⟩ (.string t178)).setCell ⟨gb179,4,none⟩ (.string (⟨#[]⟩ : ByteArray))).heap[gb179]? = some (.cells #[.string t168,.string t169,.int .i64 t170,.string t178,.string (⟨#[]⟩ : ByteArray)] 44 (0,0))):=⟨by refine blk_put (cs:=#[.string t168,.string t169,.int .i64 t170,.string t178,.string (⟨#[]⟩ : ByteArray)]) ?_ 4 _ rfl;refine blk_put (cs:=#[.string t168,.string t169,.int .i64 t170,.string (⟨#[]⟩ : ByteArray),.string (⟨#[]⟩ : ByteArray)]) ?_ 3 _ rfl;refine blk_put (cs:=#[.string t168,.string t169,.int .i64 0,.string (⟨#[]⟩ : ByteArray),.string (⟨#[]⟩ : ByteArray)]) ?_ 2 _ rfl;refine blk_put (cs:=#[.string t168,.string (⟨#[]⟩ : ByteArray),.int .i64 0,.string (⟨#[]⟩ : ByteArray),.string (⟨#[]⟩ : ByteArray)]) ?_ 1 _ rfl;refine blk_put (cs:=#[.string (⟨#[]⟩ : ByteArray),.string (⟨#[]⟩ : ByteArray),.int .i64 0,.string (⟨#[]⟩ : ByteArray),.string (⟨#[]⟩ : ByteArray)]) ?_ 0 _ rfl;exact BK179.out⟩
                have zB_ : Aside0 (Below w.heap.size w (((((w41.setCell ⟨gb179,0,none⟩ (.string t168)).setCell ⟨gb179,1,none⟩ (.string t169)).setCell ⟨gb179,2,none⟩ (.int .i64 t170)).setCell ⟨gb179,3,none⟩ (.string t178)).setCell ⟨gb179,4,none⟩ (.string (⟨#[]⟩ : ByteArray)))):=⟨by refine below_set ?_ GE179.out;refine below_set ?_ GE179.out;refine below_set ?_ GE179.out;refine below_set ?_ GE179.out;refine below_set ?_ GE179.out;exact HB.out⟩
                clear BK160 BK172 BK179 HB
                try clear hHeld
                try clear hfz49_4
                try clear hfz49_3
                try clear hfz49_2
                try clear hfz49_1
                try clear hfz49_0
                try clear hcz49_4
                try clear hcz49_3
                try clear hcz49_2
                try clear hcz49_1
                try clear hcz49_0
                try clear hnc48
                try clear hnb48
                try clear hnc47
                try clear hnb47
                try clear hms46_1
                try clear hms46_0
                try clear hns46_1
                try clear hns46_0
                try clear hfs46
                try clear hs46
                try clear hms45_1
                try clear hms45_0
                try clear hns45_1
                try clear hns45_0
                try clear hfs45
                try clear hs45
                try clear hms44_1
                try clear hms44_0
                try clear hns44_1
                try clear hns44_0
                try clear hfs44
                try clear hs44
                try clear hms43_1
                try clear hms43_0
                try clear hns43_1
                try clear hns43_0
                try clear hfs43
                try clear hs43
                try clear hms42_1
                try clear hms42_0
                try clear hns42_1
                try clear hns42_0
                try clear hfs42
                try clear hs42
                have BK160:=z160_
                have BK172:=z172_
                have BK179:=z179_
                have HB:=zB_
                clear z160_ z172_ z179_ zB_
                generalize (((((w41.setCell ⟨gb179,0,none⟩ (.string t168)).setCell ⟨gb179,1,none⟩ (.string t169)).setCell ⟨gb179,2,none⟩ (.int .i64 t170)).setCell ⟨gb179,3,none⟩ (.string t178)).setCell ⟨gb179,4,none⟩ (.string (⟨#[]⟩ : ByteArray))) = wz1 at BK160 BK172 BK179 HB ⊢
                have hzz160_0 : wz1.cell? ⟨gb160,0,none⟩ = some (.string (⟨#[]⟩ : ByteArray)):=(blk_cell BK160.out 0).trans rfl
                have hzz160_1 : wz1.cell? ⟨gb160,1,none⟩ = some (.string (⟨#[]⟩ : ByteArray)):=(blk_cell BK160.out 1).trans rfl
                have hzz160_2 : wz1.cell? ⟨gb160,2,none⟩ = some (.int .i64 0):=(blk_cell BK160.out 2).trans rfl
                have hzz160_3 : wz1.cell? ⟨gb160,3,none⟩ = some (.string (⟨#[]⟩ : ByteArray)):=(blk_cell BK160.out 3).trans rfl
                have hzz160_4 : wz1.cell? ⟨gb160,4,none⟩ = some (.string (⟨#[]⟩ : ByteArray)):=(blk_cell BK160.out 4).trans rfl
                have hzf160_0:=blk_frozen BK160.out 0
                have hzf160_1:=blk_frozen BK160.out 1
                have hzf160_2:=blk_frozen BK160.out 2
                have hzf160_3:=blk_frozen BK160.out 3
                have hzf160_4:=blk_frozen BK160.out 4
                have hzz172_0 : wz1.cell? ⟨gb172,0,none⟩ = some (.string t168):=(blk_cell BK172.out 0).trans rfl
                have hzz172_1 : wz1.cell? ⟨gb172,1,none⟩ = some (.string t169):=(blk_cell BK172.out 1).trans rfl
                have hzz172_2 : wz1.cell? ⟨gb172,2,none⟩ = some (.int .i64 t170):=(blk_cell BK172.out 2).trans rfl
                have hzf172_0:=blk_frozen BK172.out 0
                have hzf172_1:=blk_frozen BK172.out 1
                have hzf172_2:=blk_frozen BK172.out 2
                have hzz179_0 : wz1.cell? ⟨gb179,0,none⟩ = some (.string t168):=(blk_cell BK179.out 0).trans rfl
                have hzz179_1 : wz1.cell? ⟨gb179,1,none⟩ = some (.string t169):=(blk_cell BK179.out 1).trans rfl
                have hzz179_2 : wz1.cell? ⟨gb179,2,none⟩ = some (.int .i64 t170):=(blk_cell BK179.out 2).trans rfl
                have hzz179_3 : wz1.cell? ⟨gb179,3,none⟩ = some (.string t178):=(blk_cell BK179.out 3).trans rfl
                have hzz179_4 : wz1.cell? ⟨gb179,4,none⟩ = some (.string (⟨#[]⟩ : ByteArray)):=(blk_cell BK179.out 4).trans rfl
                have hzf179_0:=blk_frozen BK179.out 0
                have hzf179_1:=blk_frozen BK179.out 1
                have hzf179_2:=blk_frozen BK179.out 2
                have hzf179_3:=blk_frozen BK179.out 3
                have hzf179_4:=blk_frozen BK179.out 4
                have hzn160:=NB160_179.out
                have hzm160:=NB179_160.out
                have hzn172:=NB172_179.out
                have hzm172:=NB179_172.out
                try go_wp2_with (first|((with_reducible refine gate_callee (f:=54) rfl ?_);refine goesL_ (some 79) rfl rfl Tryd.func54 (by kernel_rfl) rfl #[.agg #[.string t168,.string t169,.int .i64 t170,.string t178,.string ((⟨#[63]⟩ : ByteArray) ++ t174)]] rfl (by (try simp only [List.map_toArray,List.map_cons,List.map_nil]);first|done|rfl|(simp only [List.length_drop,List.length_take];rfl)) ?_;(with_reducible refine (target_show.calls kj21 t168 t169 t170 t178 ((⟨#[63]⟩ : ByteArray) ++ t174) t180 _ ?side1 A36.out).mono ?_);(case side1 => exact ⟨by repeat (first|(with_reducible exact hM_.out)|(with_reducible exact LaidW.below hM_.out HB.out)|(with_reducible refine LaidW.alloc ?_ _)|(with_reducible refine LaidW.drewN ?_ _)|(with_reducible refine LaidW.drew ?_)|exact LaidW.below hM_.out (by repeat (first|(with_reducible first|exact HB.out|apply below_alloc|apply pw_below_drewN|apply below_drew1|refine below_set ?_ GE160.out|refine below_set ?_ GE172.out|refine below_set ?_ GE179.out)|exact HB.out)))⟩);rintro e w50 ⟨rfl,hb⟩;refine ⟨_,rfl,?_⟩;have n0_:=Aside0.mk (blk_below (g:=gb160) (o:=.cells #[.string (⟨#[]⟩ : ByteArray),.string (⟨#[]⟩ : ByteArray),.int .i64 0,.string (⟨#[]⟩ : ByteArray),.string (⟨#[]⟩ : ByteArray)] 44 (0,0)) (by (with_reducible repeat (first|refine blk_drewN ?_ _|refine blk_drew ?_|refine blk_alloc ?_ _));refine blk_far ?_ NB160_179.out _;(with_reducible repeat (first|refine blk_drewN ?_ _|refine blk_drew ?_|refine blk_alloc ?_ _));exact BK160.out) hb);have n1_:=Aside0.mk (blk_below (g:=gb172) (o:=.cells #[.string t168,.string t169,.int .i64 t170] 23 (0,0)) (by (with_reducible repeat (first|refine blk_drewN ?_ _|refine blk_drew ?_|refine blk_alloc ?_ _));refine blk_far ?_ NB172_179.out _;(with_reducible repeat (first|refine blk_drewN ?_ _|refine blk_drew ?_|refine blk_alloc ?_ _));exact BK172.out) hb);have n2_:=Aside0.mk (blk_below (g:=gb179) (o:=.cells #[.string t168,.string t169,.int .i64 t170,.string t178,.string ((⟨#[63]⟩ : ByteArray) ++ t174)] 44 (0,0)) (by (with_reducible repeat (first|refine blk_drewN ?_ _|refine blk_drew ?_|refine blk_alloc ?_ _));refine blk_put (cs:=#[.string t168,.string t169,.int .i64 t170,.string t178,.string (⟨#[]⟩ : ByteArray)]) ?_ 4 _ rfl;(with_reducible repeat (first|refine blk_drewN ?_ _|refine blk_drew ?_|refine blk_alloc ?_ _));exact BK179.out) hb);have n3_:=Aside0.mk (below_step (by repeat (first|(with_reducible first|exact HB.out|apply below_alloc|apply pw_below_drewN|apply below_drew1|refine below_set ?_ GE160.out|refine below_set ?_ GE172.out|refine below_set ?_ GE179.out)|exact HB.out)) hb);clear BK160;clear BK172;clear BK179;clear HB;have BK160:=n0_;have BK172:=n1_;have BK179:=n2_;have HB:=n3_;clear n0_ n1_ n2_ n3_;(try clear hb);(try clear hb2);(try clear hk);(try clear hi);have hnb51:=NB160_172.out;have hnc51:=NB172_160.out;have hcz52_0 : w50.cell? ⟨gb160,0,none⟩ = some (.string (⟨#[]⟩ : ByteArray)):=(blk_cell BK160.out 0).trans rfl;have hcz52_1 : w50.cell? ⟨gb160,1,none⟩ = some (.string (⟨#[]⟩ : ByteArray)):=(blk_cell BK160.out 1).trans rfl;have hcz52_2 : w50.cell? ⟨gb160,2,none⟩ = some (.int .i64 0):=(blk_cell BK160.out 2).trans rfl;have hcz52_3 : w50.cell? ⟨gb160,3,none⟩ = some (.string (⟨#[]⟩ : ByteArray)):=(blk_cell BK160.out 3).trans rfl;have hcz52_4 : w50.cell? ⟨gb160,4,none⟩ = some (.string (⟨#[]⟩ : ByteArray)):=(blk_cell BK160.out 4).trans rfl;have hfz52_0:=blk_frozen BK160.out 0;have hfz52_1:=blk_frozen BK160.out 1;have hfz52_2:=blk_frozen BK160.out 2;have hfz52_3:=blk_frozen BK160.out 3;have hfz52_4:=blk_frozen BK160.out 4))
                refine bodyPost_ret (results_ct rfl _ _ gb160 44 #[.string (⟨#[]⟩ : ByteArray),.string (⟨#[]⟩ : ByteArray),.int .i64 0,.string (⟨#[]⟩ : ByteArray),.string (⟨#[]⟩ : ByteArray)] (0,0) _ rfl (by (with_reducible repeat (first|refine blk_drewN ?_ _|refine blk_drew ?_|refine blk_alloc ?_ _));refine blk_put (cs:=#[.string (⟨#[]⟩ : ByteArray),.string (⟨#[]⟩ : ByteArray),.int .i64 0,.string (⟨#[]⟩ : ByteArray),.string (⟨#[]⟩ : ByteArray)]) ?_ 4 _ rfl;(with_reducible repeat (first|refine blk_drewN ?_ _|refine blk_drew ?_|refine blk_alloc ?_ _));refine blk_put (cs:=#[.string (⟨#[]⟩ : ByteArray),.string (⟨#[]⟩ : ByteArray),.int .i64 0,.string (⟨#[]⟩ : ByteArray),.string (⟨#[]⟩ : ByteArray)]) ?_ 3 _ rfl;(with_reducible repeat (first|refine blk_drewN ?_ _|refine blk_drew ?_|refine blk_alloc ?_ _));refine blk_put (cs:=#[.string (⟨#[]⟩ : ByteArray),.string (⟨#[]⟩ : ByteArray),.int .i64 0,.string (⟨#[]⟩ : ByteArray),.string (⟨#[]⟩ : ByteArray)]) ?_ 2 _ rfl;(with_reducible repeat (first|refine blk_drewN ?_ _|refine blk_drew ?_|refine blk_alloc ?_ _));refine blk_put (cs:=#[.string (⟨#[]⟩ : ByteArray),.string (⟨#[]⟩ : ByteArray),.int .i64 0,.string (⟨#[]⟩ : ByteArray),.string (⟨#[]⟩ : ByteArray)]) ?_ 1 _ rfl;(with_reducible repeat (first|refine blk_drewN ?_ _|refine blk_drew ?_|refine blk_alloc ?_ _));refine blk_put (cs:=#[.string (⟨#[]⟩ : ByteArray),.string (⟨#[]⟩ : ByteArray),.int .i64 0,.string (⟨#[]⟩ : ByteArray),.string (⟨#[]⟩ : ByteArray)]) ?_ 0 _ rfl;(with_reducible repeat (first|refine blk_drewN ?_ _|refine blk_drew ?_|refine blk_alloc ?_ _));exact BK160.out) Tryd.underlying44 rfl (by kernel_rfl)) rfl ?_
                exact ⟨by first|rfl|(simp [errW_none,errW_some] <;> rfl)|(simp [*,errW_none,errW_some] <;> rfl),by repeat (first|(with_reducible first|exact HB.out|apply below_alloc|apply pw_below_drewN|apply below_drew1|refine below_set ?_ GE160.out|refine below_set ?_ GE172.out|refine below_set ?_ GE179.out)|exact HB.out)⟩
               ·rw [if_neg c37] at H
                have c37b0 : decide (512 < (t180.size : Int)) = false:=decide_eq_false c37
                have c37b1 : decide (512 < t180.size) = false:=decide_eq_false (by omega)
                clear c37
                simp only [Option.some.injEq,Prod.mk.injEq] at H
                obtain ⟨rfl,rfl,rfl,rfl,rfl,rfl⟩:=H
                try go_wp2
                have n0_:=Aside0.mk (blk_drew BK160.out)
                have n1_:=Aside0.mk (blk_drew BK172.out)
                have n2_:=Aside0.mk (below_drew1 HB.out)
                clear BK160
                clear BK172
                clear HB
                have BK160:=n0_
                have BK172:=n1_
                have HB:=n2_
                clear n0_ n1_ n2_
                refine start_ (n:=6) (S:=fun w' => w'.cell? ⟨gb172,0,none⟩ = some (.string t168) ∧ w'.cell? ⟨gb172,1,none⟩ = some (.string t169) ∧ w'.cell? ⟨gb172,2,none⟩ = some (.int .i64 t170)) (ds:=[]) #[false,false,false,false,false,false] (by kernel_rfl) rfl rfl ⟨(blk_cell BK172.out 0).trans rfl,(blk_cell BK172.out 1).trans rfl,(blk_cell BK172.out 2).trans rfl⟩ (fun hHeld => ?_)
                generalize wc.drew = w53 at BK160 BK172 HB hHeld ⊢
                refine pure_ (i:=1) (N:=some 71) (v:=?_) (a':=?_) #[false,true,false,false,false,false] rfl rfl (by kernel_rfl) (fun _ _ _ h => h) (Or.inl ⟨by rfl,?_⟩) ?_ ?_
                rotate_left
                ·intro w'
                 go_simp
                 with_reducible rfl
                rotate_left
                ·simp only [Act.put,List.setIfInBounds_toArray,List.set_cons_zero,List.set_cons_succ,i64_w,i32_w]
                 rfl
                refine take_ (i:=0) (N:=some 70) (v:=?_) (a':=?_) #[true,true,false,false,false,false] rfl rfl (by kernel_rfl) (fun _ _ _ h => h) (Or.inl ⟨by rfl,?_⟩) hHeld ?_ ?_
                rotate_left
                ·rintro w' ⟨s0,s1,s2⟩
                 go_simp
                 with_reducible rfl
                rotate_left
                ·simp only [Act.put,List.setIfInBounds_toArray,List.set_cons_zero,List.set_cons_succ,i64_w,i32_w]
                 rfl
                refine join_ (σ:=Nat) 1 #[true,true,true,true,true,false] (fun s_ => [(72,.string t178),(13,.pointer (some ⟨s_,0,none⟩)),(73,.agg #[.string t168,.string t169,.int .i64 t170,.string t178,.string (⟨#[]⟩ : ByteArray)])]) (fun s_ w' => (w'.cell? ⟨gb172,0,none⟩ = some (.string t168) ∧ w'.cell? ⟨gb172,1,none⟩ = some (.string t169) ∧ w'.cell? ⟨gb172,2,none⟩ = some (.int .i64 t170)) ∧ (w'.heap[gb160]? = some (.cells #[.string (⟨#[]⟩ : ByteArray),.string (⟨#[]⟩ : ByteArray),.int .i64 0,.string (⟨#[]⟩ : ByteArray),.string (⟨#[]⟩ : ByteArray)] 44 (0,0))) ∧ (w'.heap[gb172]? = some (.cells #[.string t168,.string t169,.int .i64 t170] 23 (0,0))) ∧ (w'.heap[s_]? = some (.cells #[.string (⟨#[]⟩ : ByteArray),.string (⟨#[]⟩ : ByteArray),.int .i64 0,.string (⟨#[]⟩ : ByteArray),.string (⟨#[]⟩ : ByteArray)] 44 (0,0))) ∧ (w.heap.size ≤ s_) ∧ (w.heap.size ≤ s_) ∧ (gb160 ≠ s_) ∧ (s_ ≠ gb160) ∧ (gb172 ≠ s_) ∧ (s_ ≠ gb172) ∧ (Below w.heap.size w w')) ?_ ?_
                rotate_left
                ·intro hCont
                 refine two_ (i:=2) (j:=4) (Ni:=some 72) (Nj:=some 13) #[true,true,true,false,false,false] #[true,true,false,false,true,false] rfl rfl rfl rfl (by kernel_rfl) (by decide) (by decide) (fun K hK => ?_) (fun K hK => ?_)
                 ·skip
                  refine goes_ Tryd.func36 (by kernel_rfl) rfl #[.string t173] (by rfl) rfl rfl (by (try simp only [List.map_toArray,List.map_cons,List.map_nil]);first|done|rfl|(simp only [List.length_drop,List.length_take];rfl)) ?_
                  with_reducible refine (target_Clean.calls kj21 t173 t178 _ A33.out).mono ?_
                  rintro e w54 ⟨rfl,hb⟩
                  refine ⟨_,rfl,?_⟩
                  have n0_:=Aside0.mk (blk_below (g:=gb160) (o:=.cells #[.string (⟨#[]⟩ : ByteArray),.string (⟨#[]⟩ : ByteArray),.int .i64 0,.string (⟨#[]⟩ : ByteArray),.string (⟨#[]⟩ : ByteArray)] 44 (0,0)) (by (with_reducible repeat (first|refine blk_drewN ?_ _|refine blk_drew ?_|refine blk_alloc ?_ _));exact BK160.out) hb)
                  have n1_:=Aside0.mk (blk_below (g:=gb172) (o:=.cells #[.string t168,.string t169,.int .i64 t170] 23 (0,0)) (by (with_reducible repeat (first|refine blk_drewN ?_ _|refine blk_drew ?_|refine blk_alloc ?_ _));exact BK172.out) hb)
                  have n2_:=Aside0.mk (below_step (by repeat (first|(with_reducible first|exact HB.out|apply below_alloc|apply pw_below_drewN|apply below_drew1|refine below_set ?_ GE160.out|refine below_set ?_ GE172.out)|exact HB.out)) hb)
                  clear BK160
                  clear BK172
                  clear HB
                  have BK160:=n0_
                  have BK172:=n1_
                  have HB:=n2_
                  clear n0_ n1_ n2_
                  (try clear hb)
                  (try clear hb2)
                  (try clear hk)
                  (try clear hi)
                  refine hK.out _ _ ⟨(blk_cell BK172.out 0).trans rfl,(blk_cell BK172.out 1).trans rfl,(blk_cell BK172.out 2).trans rfl⟩ (fun hHeld => ?_)
                  clear hK K
                  refine norm_ (a':=?_) ?_ ?_
                  rotate_left
                  ·show Act.put _ (some 72) _ = _
                   simp only [Act.put,List.setIfInBounds_toArray,List.set_cons_zero,List.set_cons_succ,i64_w,i32_w]
                   rfl
                  refine pure_ (i:=3) (N:=some 73) (v:=?_) (a':=?_) #[true,true,true,true,false,false] rfl rfl (by kernel_rfl) (fun _ _ _ h => h) (Or.inl ⟨by rfl,?_⟩) ?_ ?_
                  rotate_left
                  ·intro w'
                   go_simp
                   with_reducible rfl
                  rotate_left
                  ·simp only [Act.put,List.setIfInBounds_toArray,List.set_cons_zero,List.set_cons_succ,i64_w,i32_w]
                   rfl
                  refine one_ (i:=4) (N:=some 13) #[true,true,true,true,true,false] rfl rfl (by kernel_rfl) (by decide) (fun K hK => ?_)
                  refine box_step ?hg (N:=13) ?hd (cs:=#[.string (⟨#[]⟩ : ByteArray),.string (⟨#[]⟩ : ByteArray),.int .i64 0,.string (⟨#[]⟩ : ByteArray),.string (⟨#[]⟩ : ByteArray)]) (t:=44) ?hr ?_;(case hd => rfl);(case hg => rfl);(case hr => first|(go_simp;done)|(go_simp;rfl))
                  intro gb179 hg w55 hbox hb
                  have n0_:=Aside0.mk (blk_below (g:=gb160) (o:=.cells #[.string (⟨#[]⟩ : ByteArray),.string (⟨#[]⟩ : ByteArray),.int .i64 0,.string (⟨#[]⟩ : ByteArray),.string (⟨#[]⟩ : ByteArray)] 44 (0,0)) (by (with_reducible repeat (first|refine blk_drewN ?_ _|refine blk_drew ?_|refine blk_alloc ?_ _));exact BK160.out) hb)
                  have n1_:=Aside0.mk (blk_below (g:=gb172) (o:=.cells #[.string t168,.string t169,.int .i64 t170] 23 (0,0)) (by (with_reducible repeat (first|refine blk_drewN ?_ _|refine blk_drew ?_|refine blk_alloc ?_ _));exact BK172.out) hb)
                  have n2_:=Aside0.mk (below_step (by repeat (first|(with_reducible first|exact HB.out|apply below_alloc|apply pw_below_drewN|apply below_drew1|refine below_set ?_ GE160.out|refine below_set ?_ GE172.out)|exact HB.out)) hb)
                  have n3_:=Aside0.mk (hbox)
                  have n4_:=Aside0.mk ((by rw [hg];exact (below_size (by repeat (first|(with_reducible first|exact HB.out|apply below_alloc|apply pw_below_drewN|apply below_drew1|refine below_set ?_ GE160.out|refine below_set ?_ GE172.out)|exact HB.out))) : w.heap.size ≤ gb179))
                  have n5_:=Aside0.mk ((by rw [hg];exact (below_size (by repeat (first|(with_reducible first|exact HB.out|apply below_alloc|apply pw_below_drewN|apply below_drew1|refine below_set ?_ GE160.out|refine below_set ?_ GE172.out)|exact HB.out))) : w.heap.size ≤ gb179))
                  have n6_:=Aside0.mk ((by rw [hg];exact Nat.ne_of_lt (blk_lt (g:=gb160) (o:=.cells #[.string (⟨#[]⟩ : ByteArray),.string (⟨#[]⟩ : ByteArray),.int .i64 0,.string (⟨#[]⟩ : ByteArray),.string (⟨#[]⟩ : ByteArray)] 44 (0,0)) (by (with_reducible repeat (first|refine blk_drewN ?_ _|refine blk_drew ?_|refine blk_alloc ?_ _));exact BK160.out)) : gb160 ≠ gb179))
                  have n7_:=Aside0.mk ((by rw [hg];exact Nat.ne_of_gt (blk_lt (g:=gb160) (o:=.cells #[.string (⟨#[]⟩ : ByteArray),.string (⟨#[]⟩ : ByteArray),.int .i64 0,.string (⟨#[]⟩ : ByteArray),.string (⟨#[]⟩ : ByteArray)] 44 (0,0)) (by (with_reducible repeat (first|refine blk_drewN ?_ _|refine blk_drew ?_|refine blk_alloc ?_ _));exact BK160.out)) : gb179 ≠ gb160))
                  have n8_:=Aside0.mk ((by rw [hg];exact Nat.ne_of_lt (blk_lt (g:=gb172) (o:=.cells #[.string t168,.string t169,.int .i64 t170] 23 (0,0)) (by (with_reducible repeat (first|refine blk_drewN ?_ _|refine blk_drew ?_|refine blk_alloc ?_ _));exact BK172.out)) : gb172 ≠ gb179))
                  have n9_:=Aside0.mk ((by rw [hg];exact Nat.ne_of_gt (blk_lt (g:=gb172) (o:=.cells #[.string t168,.string t169,.int .i64 t170] 23 (0,0)) (by (with_reducible repeat (first|refine blk_drewN ?_ _|refine blk_drew ?_|refine blk_alloc ?_ _));exact BK172.out)) : gb179 ≠ gb172))
                  clear BK160
                  clear BK172
                  clear HB
                  have BK160:=n0_
                  have BK172:=n1_
                  have HB:=n2_
                  have BK179:=n3_
                  have GW179:=n4_
                  have GE179:=n5_
                  have NB160_179:=n6_
                  have NB179_160:=n7_
                  have NB172_179:=n8_
                  have NB179_172:=n9_
                  clear n0_ n1_ n2_ n3_ n4_ n5_ n6_ n7_ n8_ n9_
                  clear hb hbox hg
                  refine hK.out _ _ ⟨(blk_cell BK172.out 0).trans rfl,(blk_cell BK172.out 1).trans rfl,(blk_cell BK172.out 2).trans rfl⟩ (fun hHeld => ?_)
                  clear hK K
                  refine norm_ (a':=?_) ?_ ?_
                  rotate_left
                  ·show Act.put _ (some 13) _ = _
                   simp only [Act.put,List.setIfInBounds_toArray,List.set_cons_zero,List.set_cons_succ,i64_w,i32_w]
                   rfl
                  exact norm_ (by simp only [putAll,Act.put,List.setIfInBounds_toArray,List.set_cons_zero,List.set_cons_succ]) (hCont (gb179) _ ⟨hHeld,(by (with_reducible repeat (first|refine blk_drewN ?_ _|refine blk_drew ?_|refine blk_alloc ?_ _));exact BK160.out),(by (with_reducible repeat (first|refine blk_drewN ?_ _|refine blk_drew ?_|refine blk_alloc ?_ _));exact BK172.out),(by (with_reducible repeat (first|refine blk_drewN ?_ _|refine blk_drew ?_|refine blk_alloc ?_ _));exact BK179.out),GW179.out,GE179.out,NB160_179.out,NB179_160.out,NB172_179.out,NB179_172.out,(by repeat (first|(with_reducible first|exact HB.out|apply below_alloc|apply pw_below_drewN|apply below_drew1|refine below_set ?_ GE160.out|refine below_set ?_ GE172.out|refine below_set ?_ GE179.out)|exact HB.out))⟩)
                 ·skip
                  refine box_step ?hg (N:=13) ?hd (cs:=#[.string (⟨#[]⟩ : ByteArray),.string (⟨#[]⟩ : ByteArray),.int .i64 0,.string (⟨#[]⟩ : ByteArray),.string (⟨#[]⟩ : ByteArray)]) (t:=44) ?hr ?_;(case hd => rfl);(case hg => rfl);(case hr => first|(go_simp;done)|(go_simp;rfl))
                  intro gb179 hg w54 hbox hb
                  have n0_:=Aside0.mk (blk_below (g:=gb160) (o:=.cells #[.string (⟨#[]⟩ : ByteArray),.string (⟨#[]⟩ : ByteArray),.int .i64 0,.string (⟨#[]⟩ : ByteArray),.string (⟨#[]⟩ : ByteArray)] 44 (0,0)) (by (with_reducible repeat (first|refine blk_drewN ?_ _|refine blk_drew ?_|refine blk_alloc ?_ _));exact BK160.out) hb)
                  have n1_:=Aside0.mk (blk_below (g:=gb172) (o:=.cells #[.string t168,.string t169,.int .i64 t170] 23 (0,0)) (by (with_reducible repeat (first|refine blk_drewN ?_ _|refine blk_drew ?_|refine blk_alloc ?_ _));exact BK172.out) hb)
                  have n2_:=Aside0.mk (below_step (by repeat (first|(with_reducible first|exact HB.out|apply below_alloc|apply pw_below_drewN|apply below_drew1|refine below_set ?_ GE160.out|refine below_set ?_ GE172.out)|exact HB.out)) hb)
                  have n3_:=Aside0.mk (hbox)
                  have n4_:=Aside0.mk ((by rw [hg];exact (below_size (by repeat (first|(with_reducible first|exact HB.out|apply below_alloc|apply pw_below_drewN|apply below_drew1|refine below_set ?_ GE160.out|refine below_set ?_ GE172.out)|exact HB.out))) : w.heap.size ≤ gb179))
                  have n5_:=Aside0.mk ((by rw [hg];exact (below_size (by repeat (first|(with_reducible first|exact HB.out|apply below_alloc|apply pw_below_drewN|apply below_drew1|refine below_set ?_ GE160.out|refine below_set ?_ GE172.out)|exact HB.out))) : w.heap.size ≤ gb179))
                  have n6_:=Aside0.mk ((by rw [hg];exact Nat.ne_of_lt (blk_lt (g:=gb160) (o:=.cells #[.string (⟨#[]⟩ : ByteArray),.string (⟨#[]⟩ : ByteArray),.int .i64 0,.string (⟨#[]⟩ : ByteArray),.string (⟨#[]⟩ : ByteArray)] 44 (0,0)) (by (with_reducible repeat (first|refine blk_drewN ?_ _|refine blk_drew ?_|refine blk_alloc ?_ _));exact BK160.out)) : gb160 ≠ gb179))
                  have n7_:=Aside0.mk ((by rw [hg];exact Nat.ne_of_gt (blk_lt (g:=gb160) (o:=.cells #[.string (⟨#[]⟩ : ByteArray),.string (⟨#[]⟩ : ByteArray),.int .i64 0,.string (⟨#[]⟩ : ByteArray),.string (⟨#[]⟩ : ByteArray)] 44 (0,0)) (by (with_reducible repeat (first|refine blk_drewN ?_ _|refine blk_drew ?_|refine blk_alloc ?_ _));exact BK160.out)) : gb179 ≠ gb160))
                  have n8_:=Aside0.mk ((by rw [hg];exact Nat.ne_of_lt (blk_lt (g:=gb172) (o:=.cells #[.string t168,.string t169,.int .i64 t170] 23 (0,0)) (by (with_reducible repeat (first|refine blk_drewN ?_ _|refine blk_drew ?_|refine blk_alloc ?_ _));exact BK172.out)) : gb172 ≠ gb179))
                  have n9_:=Aside0.mk ((by rw [hg];exact Nat.ne_of_gt (blk_lt (g:=gb172) (o:=.cells #[.string t168,.string t169,.int .i64 t170] 23 (0,0)) (by (with_reducible repeat (first|refine blk_drewN ?_ _|refine blk_drew ?_|refine blk_alloc ?_ _));exact BK172.out)) : gb179 ≠ gb172))
                  clear BK160
                  clear BK172
                  clear HB
                  have BK160:=n0_
                  have BK172:=n1_
                  have HB:=n2_
                  have BK179:=n3_
                  have GW179:=n4_
                  have GE179:=n5_
                  have NB160_179:=n6_
                  have NB179_160:=n7_
                  have NB172_179:=n8_
                  have NB179_172:=n9_
                  clear n0_ n1_ n2_ n3_ n4_ n5_ n6_ n7_ n8_ n9_
                  clear hb hbox hg
                  refine hK.out _ _ ⟨(blk_cell BK172.out 0).trans rfl,(blk_cell BK172.out 1).trans rfl,(blk_cell BK172.out 2).trans rfl⟩ (fun hHeld => ?_)
                  clear hK K
                  refine norm_ (a':=?_) ?_ ?_
                  rotate_left
                  ·show Act.put _ (some 13) _ = _
                   simp only [Act.put,List.setIfInBounds_toArray,List.set_cons_zero,List.set_cons_succ,i64_w,i32_w]
                   rfl
                  refine one_ (i:=2) (N:=some 72) #[true,true,true,false,true,false] rfl rfl (by kernel_rfl) (by decide) (fun K hK => ?_)
                  refine goes_ Tryd.func36 (by kernel_rfl) rfl #[.string t173] (by rfl) rfl rfl (by (try simp only [List.map_toArray,List.map_cons,List.map_nil]);first|done|rfl|(simp only [List.length_drop,List.length_take];rfl)) ?_
                  with_reducible refine (target_Clean.calls kj21 t173 t178 _ A33.out).mono ?_
                  rintro e w55 ⟨rfl,hb⟩
                  refine ⟨_,rfl,?_⟩
                  have n0_:=Aside0.mk (blk_below (g:=gb160) (o:=.cells #[.string (⟨#[]⟩ : ByteArray),.string (⟨#[]⟩ : ByteArray),.int .i64 0,.string (⟨#[]⟩ : ByteArray),.string (⟨#[]⟩ : ByteArray)] 44 (0,0)) (by (with_reducible repeat (first|refine blk_drewN ?_ _|refine blk_drew ?_|refine blk_alloc ?_ _));exact BK160.out) hb)
                  have n1_:=Aside0.mk (blk_below (g:=gb172) (o:=.cells #[.string t168,.string t169,.int .i64 t170] 23 (0,0)) (by (with_reducible repeat (first|refine blk_drewN ?_ _|refine blk_drew ?_|refine blk_alloc ?_ _));exact BK172.out) hb)
                  have n2_:=Aside0.mk (blk_below (g:=gb179) (o:=.cells #[.string (⟨#[]⟩ : ByteArray),.string (⟨#[]⟩ : ByteArray),.int .i64 0,.string (⟨#[]⟩ : ByteArray),.string (⟨#[]⟩ : ByteArray)] 44 (0,0)) (by (with_reducible repeat (first|refine blk_drewN ?_ _|refine blk_drew ?_|refine blk_alloc ?_ _));exact BK179.out) hb)
                  have n3_:=Aside0.mk (below_step (by repeat (first|(with_reducible first|exact HB.out|apply below_alloc|apply pw_below_drewN|apply below_drew1|refine below_set ?_ GE160.out|refine below_set ?_ GE172.out|refine below_set ?_ GE179.out)|exact HB.out)) hb)
                  clear BK160
                  clear BK172
                  clear BK179
                  clear HB
                  have BK160:=n0_
                  have BK172:=n1_
                  have BK179:=n2_
                  have HB:=n3_
                  clear n0_ n1_ n2_ n3_
                  (try clear hb)
                  (try clear hb2)
                  (try clear hk)
                  (try clear hi)
                  refine hK.out _ _ ⟨(blk_cell BK172.out 0).trans rfl,(blk_cell BK172.out 1).trans rfl,(blk_cell BK172.out 2).trans rfl⟩ (fun hHeld => ?_)
                  clear hK K
                  refine norm_ (a':=?_) ?_ ?_
                  rotate_left
                  ·show Act.put _ (some 72) _ = _
                   simp only [Act.put,List.setIfInBounds_toArray,List.set_cons_zero,List.set_cons_succ,i64_w,i32_w]
                   rfl
                  refine pure_ (i:=3) (N:=some 73) (v:=?_) (a':=?_) #[true,true,true,true,true,false] rfl rfl (by kernel_rfl) (fun _ _ _ h => h) (Or.inl ⟨by rfl,?_⟩) ?_ ?_
                  rotate_left
                  ·intro w'
                   go_simp
                   with_reducible rfl
                  rotate_left
                  ·simp only [Act.put,List.setIfInBounds_toArray,List.set_cons_zero,List.set_cons_succ,i64_w,i32_w]
                   rfl
                  exact norm_ (by simp only [putAll,Act.put,List.setIfInBounds_toArray,List.set_cons_zero,List.set_cons_succ]) (hCont (gb179) _ ⟨hHeld,(by (with_reducible repeat (first|refine blk_drewN ?_ _|refine blk_drew ?_|refine blk_alloc ?_ _));exact BK160.out),(by (with_reducible repeat (first|refine blk_drewN ?_ _|refine blk_drew ?_|refine blk_alloc ?_ _));exact BK172.out),(by (with_reducible repeat (first|refine blk_drewN ?_ _|refine blk_drew ?_|refine blk_alloc ?_ _));exact BK179.out),GW179.out,GE179.out,NB160_179.out,NB179_160.out,NB172_179.out,NB179_172.out,(by repeat (first|(with_reducible first|exact HB.out|apply below_alloc|apply pw_below_drewN|apply below_drew1|refine below_set ?_ GE160.out|refine below_set ?_ GE172.out|refine below_set ?_ GE179.out)|exact HB.out))⟩)
                rintro gb179 w56 ⟨hS_,h0_,h1_,h2_,h3_,h4_,h5_,h6_,h7_,h8_,h9_⟩
                have n0_ : Aside0 (w56.heap[gb160]? = some (.cells #[.string (⟨#[]⟩ : ByteArray),.string (⟨#[]⟩ : ByteArray),.int .i64 0,.string (⟨#[]⟩ : ByteArray),.string (⟨#[]⟩ : ByteArray)] 44 (0,0))):=⟨h0_⟩
                have n1_ : Aside0 (w56.heap[gb172]? = some (.cells #[.string t168,.string t169,.int .i64 t170] 23 (0,0))):=⟨h1_⟩
                have n2_ : Aside0 (w56.heap[gb179]? = some (.cells #[.string (⟨#[]⟩ : ByteArray),.string (⟨#[]⟩ : ByteArray),.int .i64 0,.string (⟨#[]⟩ : ByteArray),.string (⟨#[]⟩ : ByteArray)] 44 (0,0))):=⟨h2_⟩
                have n3_ : Aside0 (w.heap.size ≤ gb179):=⟨h3_⟩
                have n4_ : Aside0 (w.heap.size ≤ gb179):=⟨h4_⟩
                have n5_ : Aside0 (gb160 ≠ gb179):=⟨h5_⟩
                have n6_ : Aside0 (gb179 ≠ gb160):=⟨h6_⟩
                have n7_ : Aside0 (gb172 ≠ gb179):=⟨h7_⟩
                have n8_ : Aside0 (gb179 ≠ gb172):=⟨h8_⟩
                have n9_ : Aside0 (Below w.heap.size w w56):=⟨h9_⟩
                clear BK160
                clear BK172
                clear HB
                clear h0_ h1_ h2_ h3_ h4_ h5_ h6_ h7_ h8_ h9_
                have BK160:=n0_
                have BK172:=n1_
                have BK179:=n2_
                have GW179:=n3_
                have GE179:=n4_
                have NB160_179:=n5_
                have NB179_160:=n6_
                have NB172_179:=n7_
                have NB179_172:=n8_
                have HB:=n9_
                clear n0_ n1_ n2_ n3_ n4_ n5_ n6_ n7_ n8_ n9_
                have hHeld : w56.cell? ⟨gb172,0,none⟩ = some (.string t168) ∧ w56.cell? ⟨gb172,1,none⟩ = some (.string t169) ∧ w56.cell? ⟨gb172,2,none⟩ = some (.int .i64 t170):=hS_
                refine norm_ (a':=?_) ?_ ?_
                rotate_left
                ·simp only [putAll,Act.put,List.setIfInBounds_toArray,List.set_cons_zero,List.set_cons_succ]
                 rfl
                refine one_ (i:=5) (N:=none) #[true,true,true,true,true,true] rfl rfl (by kernel_rfl) (by decide) (fun K hK => ?_)
                have hs57 : w56.cell? ⟨gb179,0,none⟩ = some (.string (⟨#[]⟩ : ByteArray)):=(blk_cell BK179.out 0).trans rfl
                have hfs57:=blk_frozen BK179.out 0
                have hns57_0:=NB160_179.out
                have hns57_1:=NB172_179.out
                have hms57_0:=NB179_160.out
                have hms57_1:=NB179_172.out
                have hs58 : w56.cell? ⟨gb179,1,none⟩ = some (.string (⟨#[]⟩ : ByteArray)):=(blk_cell BK179.out 1).trans rfl
                have hfs58:=blk_frozen BK179.out 1
                have hns58_0:=NB160_179.out
                have hns58_1:=NB172_179.out
                have hms58_0:=NB179_160.out
                have hms58_1:=NB179_172.out
                have hs59 : w56.cell? ⟨gb179,2,none⟩ = some (.int .i64 0):=(blk_cell BK179.out 2).trans rfl
                have hfs59:=blk_frozen BK179.out 2
                have hns59_0:=NB160_179.out
                have hns59_1:=NB172_179.out
                have hms59_0:=NB179_160.out
                have hms59_1:=NB179_172.out
                have hs60 : w56.cell? ⟨gb179,3,none⟩ = some (.string (⟨#[]⟩ : ByteArray)):=(blk_cell BK179.out 3).trans rfl
                have hfs60:=blk_frozen BK179.out 3
                have hns60_0:=NB160_179.out
                have hns60_1:=NB172_179.out
                have hms60_0:=NB179_160.out
                have hms60_1:=NB179_172.out
                have hs61 : w56.cell? ⟨gb179,4,none⟩ = some (.string (⟨#[]⟩ : ByteArray)):=(blk_cell BK179.out 4).trans rfl
                have hfs61:=blk_frozen BK179.out 4
                have hns61_0:=NB160_179.out
                have hns61_1:=NB172_179.out
                have hms61_0:=NB179_160.out
                have hms61_1:=NB179_172.out
                refine skip_ (w1:=?_) (by rfl) rfl ?_ ?_
                rotate_left
                ·go_simp
                 rfl
                refine hK.out _ _ ⟨((cell_far (p:=⟨gb179,_,none⟩) NB172_179.out _).trans (((cell_far (p:=⟨gb179,_,none⟩) NB172_179.out _).trans (((cell_far (p:=⟨gb179,_,none⟩) NB172_179.out _).trans (((cell_far (p:=⟨gb179,_,none⟩) NB172_179.out _).trans (((cell_far (p:=⟨gb179,_,none⟩) NB172_179.out _).trans (hHeld.1)))))))))),((cell_far (p:=⟨gb179,_,none⟩) NB172_179.out _).trans (((cell_far (p:=⟨gb179,_,none⟩) NB172_179.out _).trans (((cell_far (p:=⟨gb179,_,none⟩) NB172_179.out _).trans (((cell_far (p:=⟨gb179,_,none⟩) NB172_179.out _).trans (((cell_far (p:=⟨gb179,_,none⟩) NB172_179.out _).trans (hHeld.2.1)))))))))),((cell_far (p:=⟨gb179,_,none⟩) NB172_179.out _).trans (((cell_far (p:=⟨gb179,_,none⟩) NB172_179.out _).trans (((cell_far (p:=⟨gb179,_,none⟩) NB172_179.out _).trans (((cell_far (p:=⟨gb179,_,none⟩) NB172_179.out _).trans (((cell_far (p:=⟨gb179,_,none⟩) NB172_179.out _).trans (hHeld.2.2))))))))))⟩ (fun hHeld => ?_)
                clear hK K
                refine done_ (by kernel_rfl) ?_
                have hnb62:=NB179_160.out
                have hnc62:=NB160_179.out
                have hnb63:=NB179_172.out
                have hnc63:=NB172_179.out
                have hcz64_0 : w56.cell? ⟨gb179,0,none⟩ = some (.string (⟨#[]⟩ : ByteArray)):=(blk_cell BK179.out 0).trans rfl
                have hcz64_1 : w56.cell? ⟨gb179,1,none⟩ = some (.string (⟨#[]⟩ : ByteArray)):=(blk_cell BK179.out 1).trans rfl
                have hcz64_2 : w56.cell? ⟨gb179,2,none⟩ = some (.int .i64 0):=(blk_cell BK179.out 2).trans rfl
                have hcz64_3 : w56.cell? ⟨gb179,3,none⟩ = some (.string (⟨#[]⟩ : ByteArray)):=(blk_cell BK179.out 3).trans rfl
                have hcz64_4 : w56.cell? ⟨gb179,4,none⟩ = some (.string (⟨#[]⟩ : ByteArray)):=(blk_cell BK179.out 4).trans rfl
                have hfz64_0:=blk_frozen BK179.out 0
                have hfz64_1:=blk_frozen BK179.out 1
                have hfz64_2:=blk_frozen BK179.out 2
                have hfz64_3:=blk_frozen BK179.out 3
                have hfz64_4:=blk_frozen BK179.out 4
                have z160_ : Aside0 ((((((w56.setCell ⟨gb179,0,none⟩ (.string t168)).setCell ⟨gb179,1,none⟩ (.string t169)).setCell ⟨gb179,2,none⟩ (.int .i64 t170)).setCell ⟨gb179,3,none⟩ (.string t178)).setCell ⟨gb179,4,none⟩ (.string (⟨#[]⟩ : ByteArray))).heap[gb160]? = some (.cells #[.string (⟨#[]⟩ : ByteArray),.string (⟨#[]⟩ : ByteArray),.int .i64 0,.string (⟨#[]⟩ : ByteArray),.string (⟨#[]⟩ : ByteArray)] 44 (0,0))):=⟨by refine blk_far ?_ NB160_179.out _;refine blk_far ?_ NB160_179.out _;refine blk_far ?_ NB160_179.out _;refine blk_far ?_ NB160_179.out _;refine blk_far ?_ NB160_179.out _;exact BK160.out⟩
                have z172_ : Aside0 ((((((w56.setCell ⟨gb179,0,none⟩ (.string t168)).setCell ⟨gb179,1,none⟩ (.string t169)).setCell ⟨gb179,2,none⟩ (.int .i64 t170)).setCell ⟨gb179,3,none⟩ (.string t178)).setCell ⟨gb179,4,none⟩ (.string (⟨#[]⟩ : ByteArray))).heap[gb172]? = some (.cells #[.string t168,.string t169,.int .i64 t170] 23 (0,0))):=⟨by refine blk_far ?_ NB172_179.out _;refine blk_far ?_ NB172_179.out _;refine blk_far ?_ NB172_179.out _;refine blk_far ?_ NB172_179.out _;refine blk_far ?_ NB172_179.out _;exact BK172.out⟩
                have z179_ : Aside0 ((((((w56.setCell ⟨gb179,0,none⟩ (.string t168)).setCell ⟨gb179,1,none⟩ (.string t169)).setCell ⟨gb179,2,none⟩ (.int .i64 t170)).setCell ⟨gb179,3,none⟩ (.string t178)).setCell ⟨gb179,4,none⟩ (.string (⟨#[]⟩ : ByteArray))).heap[gb179]? = some (.cells #[.string t168,.string t169,.int .i64 t170,.string t178,.string (⟨#[]⟩ : ByteArray)] 44 (0,0))):=⟨by refine blk_put (cs:=#[.string t168,.string t169,.int .i64 t170,.string t178,.string (⟨#[]⟩ : ByteArray)]) ?_ 4 _ rfl;refine blk_put (cs:=#[.string t168,.string t169,.int .i64 t170,.string (⟨#[]⟩ : ByteArray),.string (⟨#[]⟩ : ByteArray)]) ?_ 3 _ rfl;refine blk_put (cs:=#[.string t168,.string t169,.int .i64 0,.string (⟨#[]⟩ : ByteArray),.string (⟨#[]⟩ : ByteArray)]) ?_ 2 _ rfl;refine blk_put (cs:=#[.string t168,.string (⟨#[]⟩ : ByteArray),.int .i64 0,.string (⟨#[]⟩ : ByteArray),.string (⟨#[]⟩ : ByteArray)]) ?_ 1 _ rfl;refine blk_put (cs:=#[.string (⟨#[]⟩ : ByteArray),.string (⟨#[]⟩ : ByteArray),.int .i64 0,.string (⟨#[]⟩ : ByteArray),.string (⟨#[]⟩ : ByteArray)]) ?_ 0 _ rfl;exact BK179.out⟩
                have zB_ : Aside0 (Below w.heap.size w (((((w56.setCell ⟨gb179,0,none⟩ (.string t168)).setCell ⟨gb179,1,none⟩ (.string t169)).setCell ⟨gb179,2,none⟩ (.int .i64 t170)).setCell ⟨gb179,3,none⟩ (.string t178)).setCell ⟨gb179,4,none⟩ (.string (⟨#[]⟩ : ByteArray)))):=⟨by refine below_set ?_ GE179.out;refine below_set ?_ GE179.out;refine below_set ?_ GE179.out;refine below_set ?_ GE179.out;refine below_set ?_ GE179.out;exact HB.out⟩
                clear BK160 BK172 BK179 HB
                try clear hHeld
                try clear hfz64_4
                try clear hfz64_3
                try clear hfz64_2
                try clear hfz64_1
                try clear hfz64_0
                try clear hcz64_4
                try clear hcz64_3
                try clear hcz64_2
                try clear hcz64_1
                try clear hcz64_0
                try clear hnc63
                try clear hnb63
                try clear hnc62
                try clear hnb62
                try clear hms61_1
                try clear hms61_0
                try clear hns61_1
                try clear hns61_0
                try clear hfs61
                try clear hs61
                try clear hms60_1
                try clear hms60_0
                try clear hns60_1
                try clear hns60_0
                try clear hfs60
                try clear hs60
                try clear hms59_1
                try clear hms59_0
                try clear hns59_1
                try clear hns59_0
                try clear hfs59
                try clear hs59
                try clear hms58_1
                try clear hms58_0
                try clear hns58_1
                try clear hns58_0
                try clear hfs58
                try clear hs58
                try clear hms57_1
                try clear hms57_0
                try clear hns57_1
                try clear hns57_0
                try clear hfs57
                try clear hs57
                have BK160:=z160_
                have BK172:=z172_
                have BK179:=z179_
                have HB:=zB_
                clear z160_ z172_ z179_ zB_
                generalize (((((w56.setCell ⟨gb179,0,none⟩ (.string t168)).setCell ⟨gb179,1,none⟩ (.string t169)).setCell ⟨gb179,2,none⟩ (.int .i64 t170)).setCell ⟨gb179,3,none⟩ (.string t178)).setCell ⟨gb179,4,none⟩ (.string (⟨#[]⟩ : ByteArray))) = wz2 at BK160 BK172 BK179 HB ⊢
                have hzz160_0 : wz2.cell? ⟨gb160,0,none⟩ = some (.string (⟨#[]⟩ : ByteArray)):=(blk_cell BK160.out 0).trans rfl
                have hzz160_1 : wz2.cell? ⟨gb160,1,none⟩ = some (.string (⟨#[]⟩ : ByteArray)):=(blk_cell BK160.out 1).trans rfl
                have hzz160_2 : wz2.cell? ⟨gb160,2,none⟩ = some (.int .i64 0):=(blk_cell BK160.out 2).trans rfl
                have hzz160_3 : wz2.cell? ⟨gb160,3,none⟩ = some (.string (⟨#[]⟩ : ByteArray)):=(blk_cell BK160.out 3).trans rfl
                have hzz160_4 : wz2.cell? ⟨gb160,4,none⟩ = some (.string (⟨#[]⟩ : ByteArray)):=(blk_cell BK160.out 4).trans rfl
                have hzf160_0:=blk_frozen BK160.out 0
                have hzf160_1:=blk_frozen BK160.out 1
                have hzf160_2:=blk_frozen BK160.out 2
                have hzf160_3:=blk_frozen BK160.out 3
                have hzf160_4:=blk_frozen BK160.out 4
                have hzz172_0 : wz2.cell? ⟨gb172,0,none⟩ = some (.string t168):=(blk_cell BK172.out 0).trans rfl
                have hzz172_1 : wz2.cell? ⟨gb172,1,none⟩ = some (.string t169):=(blk_cell BK172.out 1).trans rfl
                have hzz172_2 : wz2.cell? ⟨gb172,2,none⟩ = some (.int .i64 t170):=(blk_cell BK172.out 2).trans rfl
                have hzf172_0:=blk_frozen BK172.out 0
                have hzf172_1:=blk_frozen BK172.out 1
                have hzf172_2:=blk_frozen BK172.out 2
                have hzz179_0 : wz2.cell? ⟨gb179,0,none⟩ = some (.string t168):=(blk_cell BK179.out 0).trans rfl
                have hzz179_1 : wz2.cell? ⟨gb179,1,none⟩ = some (.string t169):=(blk_cell BK179.out 1).trans rfl
                have hzz179_2 : wz2.cell? ⟨gb179,2,none⟩ = some (.int .i64 t170):=(blk_cell BK179.out 2).trans rfl
                have hzz179_3 : wz2.cell? ⟨gb179,3,none⟩ = some (.string t178):=(blk_cell BK179.out 3).trans rfl
                have hzz179_4 : wz2.cell? ⟨gb179,4,none⟩ = some (.string (⟨#[]⟩ : ByteArray)):=(blk_cell BK179.out 4).trans rfl
                have hzf179_0:=blk_frozen BK179.out 0
                have hzf179_1:=blk_frozen BK179.out 1
                have hzf179_2:=blk_frozen BK179.out 2
                have hzf179_3:=blk_frozen BK179.out 3
                have hzf179_4:=blk_frozen BK179.out 4
                have hzn160:=NB160_179.out
                have hzm160:=NB179_160.out
                have hzn172:=NB172_179.out
                have hzm172:=NB179_172.out
                try go_wp2_with (first|((with_reducible refine gate_callee (f:=54) rfl ?_);refine goesL_ (some 79) rfl rfl Tryd.func54 (by kernel_rfl) rfl #[.agg #[.string t168,.string t169,.int .i64 t170,.string t178,.string ((⟨#[63]⟩ : ByteArray) ++ t174)]] rfl (by (try simp only [List.map_toArray,List.map_cons,List.map_nil]);first|done|rfl|(simp only [List.length_drop,List.length_take];rfl)) ?_;(with_reducible refine (target_show.calls kj21 t168 t169 t170 t178 ((⟨#[63]⟩ : ByteArray) ++ t174) t180 _ ?side1 A36.out).mono ?_);(case side1 => exact ⟨by repeat (first|(with_reducible exact hM_.out)|(with_reducible exact LaidW.below hM_.out HB.out)|(with_reducible refine LaidW.alloc ?_ _)|(with_reducible refine LaidW.drewN ?_ _)|(with_reducible refine LaidW.drew ?_)|exact LaidW.below hM_.out (by repeat (first|(with_reducible first|exact HB.out|apply below_alloc|apply pw_below_drewN|apply below_drew1|refine below_set ?_ GE160.out|refine below_set ?_ GE172.out|refine below_set ?_ GE179.out)|exact HB.out)))⟩);rintro e w65 ⟨rfl,hb⟩;refine ⟨_,rfl,?_⟩;have n0_:=Aside0.mk (blk_below (g:=gb160) (o:=.cells #[.string (⟨#[]⟩ : ByteArray),.string (⟨#[]⟩ : ByteArray),.int .i64 0,.string (⟨#[]⟩ : ByteArray),.string (⟨#[]⟩ : ByteArray)] 44 (0,0)) (by (with_reducible repeat (first|refine blk_drewN ?_ _|refine blk_drew ?_|refine blk_alloc ?_ _));refine blk_far ?_ NB160_179.out _;(with_reducible repeat (first|refine blk_drewN ?_ _|refine blk_drew ?_|refine blk_alloc ?_ _));exact BK160.out) hb);have n1_:=Aside0.mk (blk_below (g:=gb172) (o:=.cells #[.string t168,.string t169,.int .i64 t170] 23 (0,0)) (by (with_reducible repeat (first|refine blk_drewN ?_ _|refine blk_drew ?_|refine blk_alloc ?_ _));refine blk_far ?_ NB172_179.out _;(with_reducible repeat (first|refine blk_drewN ?_ _|refine blk_drew ?_|refine blk_alloc ?_ _));exact BK172.out) hb);have n2_:=Aside0.mk (blk_below (g:=gb179) (o:=.cells #[.string t168,.string t169,.int .i64 t170,.string t178,.string ((⟨#[63]⟩ : ByteArray) ++ t174)] 44 (0,0)) (by (with_reducible repeat (first|refine blk_drewN ?_ _|refine blk_drew ?_|refine blk_alloc ?_ _));refine blk_put (cs:=#[.string t168,.string t169,.int .i64 t170,.string t178,.string (⟨#[]⟩ : ByteArray)]) ?_ 4 _ rfl;(with_reducible repeat (first|refine blk_drewN ?_ _|refine blk_drew ?_|refine blk_alloc ?_ _));exact BK179.out) hb);have n3_:=Aside0.mk (below_step (by repeat (first|(with_reducible first|exact HB.out|apply below_alloc|apply pw_below_drewN|apply below_drew1|refine below_set ?_ GE160.out|refine below_set ?_ GE172.out|refine below_set ?_ GE179.out)|exact HB.out)) hb);clear BK160;clear BK172;clear BK179;clear HB;have BK160:=n0_;have BK172:=n1_;have BK179:=n2_;have HB:=n3_;clear n0_ n1_ n2_ n3_;(try clear hb);(try clear hb2);(try clear hk);(try clear hi);have hcz66_0 : w65.cell? ⟨gb179,0,none⟩ = some (.string t168):=(blk_cell BK179.out 0).trans rfl;have hcz66_1 : w65.cell? ⟨gb179,1,none⟩ = some (.string t169):=(blk_cell BK179.out 1).trans rfl;have hcz66_2 : w65.cell? ⟨gb179,2,none⟩ = some (.int .i64 t170):=(blk_cell BK179.out 2).trans rfl;have hcz66_3 : w65.cell? ⟨gb179,3,none⟩ = some (.string t178):=(blk_cell BK179.out 3).trans rfl;have hcz66_4 : w65.cell? ⟨gb179,4,none⟩ = some (.string ((⟨#[63]⟩ : ByteArray) ++ t174)):=(blk_cell BK179.out 4).trans rfl;have hfz66_0:=blk_frozen BK179.out 0;have hfz66_1:=blk_frozen BK179.out 1;have hfz66_2:=blk_frozen BK179.out 2;have hfz66_3:=blk_frozen BK179.out 3;have hfz66_4:=blk_frozen BK179.out 4;have hnb67:=NB160_172.out;have hnc67:=NB172_160.out;have hcz68_0 : w65.cell? ⟨gb160,0,none⟩ = some (.string (⟨#[]⟩ : ByteArray)):=(blk_cell BK160.out 0).trans rfl;have hcz68_1 : w65.cell? ⟨gb160,1,none⟩ = some (.string (⟨#[]⟩ : ByteArray)):=(blk_cell BK160.out 1).trans rfl;have hcz68_2 : w65.cell? ⟨gb160,2,none⟩ = some (.int .i64 0):=(blk_cell BK160.out 2).trans rfl;have hcz68_3 : w65.cell? ⟨gb160,3,none⟩ = some (.string (⟨#[]⟩ : ByteArray)):=(blk_cell BK160.out 3).trans rfl;have hcz68_4 : w65.cell? ⟨gb160,4,none⟩ = some (.string (⟨#[]⟩ : ByteArray)):=(blk_cell BK160.out 4).trans rfl;have hfz68_0:=blk_frozen BK160.out 0;have hfz68_1:=blk_frozen BK160.out 1;have hfz68_2:=blk_frozen BK160.out 2;have hfz68_3:=blk_frozen BK160.out 3;have hfz68_4:=blk_frozen BK160.out 4))
                refine bodyPost_ret (results_ct rfl _ _ gb160 44 #[.string t168,.string t169,.int .i64 t170,.string t178,.string ((⟨#[63]⟩ : ByteArray) ++ t174)] (0,0) _ rfl (by (with_reducible repeat (first|refine blk_drewN ?_ _|refine blk_drew ?_|refine blk_alloc ?_ _));refine blk_put (cs:=#[.string t168,.string t169,.int .i64 t170,.string t178,.string (⟨#[]⟩ : ByteArray)]) ?_ 4 _ rfl;(with_reducible repeat (first|refine blk_drewN ?_ _|refine blk_drew ?_|refine blk_alloc ?_ _));refine blk_put (cs:=#[.string t168,.string t169,.int .i64 t170,.string (⟨#[]⟩ : ByteArray),.string (⟨#[]⟩ : ByteArray)]) ?_ 3 _ rfl;(with_reducible repeat (first|refine blk_drewN ?_ _|refine blk_drew ?_|refine blk_alloc ?_ _));refine blk_put (cs:=#[.string t168,.string t169,.int .i64 0,.string (⟨#[]⟩ : ByteArray),.string (⟨#[]⟩ : ByteArray)]) ?_ 2 _ rfl;(with_reducible repeat (first|refine blk_drewN ?_ _|refine blk_drew ?_|refine blk_alloc ?_ _));refine blk_put (cs:=#[.string t168,.string (⟨#[]⟩ : ByteArray),.int .i64 0,.string (⟨#[]⟩ : ByteArray),.string (⟨#[]⟩ : ByteArray)]) ?_ 1 _ rfl;(with_reducible repeat (first|refine blk_drewN ?_ _|refine blk_drew ?_|refine blk_alloc ?_ _));refine blk_put (cs:=#[.string (⟨#[]⟩ : ByteArray),.string (⟨#[]⟩ : ByteArray),.int .i64 0,.string (⟨#[]⟩ : ByteArray),.string (⟨#[]⟩ : ByteArray)]) ?_ 0 _ rfl;(with_reducible repeat (first|refine blk_drewN ?_ _|refine blk_drew ?_|refine blk_alloc ?_ _));exact BK160.out) Tryd.underlying44 rfl (by kernel_rfl)) rfl ?_
                exact ⟨by first|rfl|(simp [errW_none,errW_some] <;> rfl)|(simp [*,errW_none,errW_some] <;> rfl),by repeat (first|(with_reducible first|exact HB.out|apply below_alloc|apply pw_below_drewN|apply below_drew1|refine below_set ?_ GE160.out|refine below_set ?_ GE172.out|refine below_set ?_ GE179.out)|exact HB.out)⟩
              ·rw [if_neg c35] at H
               exact absurd H (by simp)
             ·replace c34:=Bool.eq_false_iff.mpr c34
              subst c34
              have H1 : ((target_show.f kj21 t168 t169 t170 t178 (⟨#[]⟩ : ByteArray)).bind fun t181 => (if (t181.size : Int) > 512 then (some ((⟨#[]⟩ : ByteArray),(⟨#[]⟩ : ByteArray),0,(⟨#[]⟩ : ByteArray),(⟨#[]⟩ : ByteArray),4)) else (some (t168,t169,t170,t178,(⟨#[]⟩ : ByteArray),0)))) = some (r1,r2,r3,r4,r5,r6):=by rw [if_neg (show ¬ (false = true) by decide)] at H;exact H
              clear H
              have H:=H1
              clear H1
              replace H:=Option.bind_eq_some_iff.mp H
              obtain ⟨t181,A690,H⟩:=H
              replace H : (if (t181.size : Int) > 512 then (some ((⟨#[]⟩ : ByteArray),(⟨#[]⟩ : ByteArray),0,(⟨#[]⟩ : ByteArray),(⟨#[]⟩ : ByteArray),4)) else (some (t168,t169,t170,t178,(⟨#[]⟩ : ByteArray),0))) = some (r1,r2,r3,r4,r5,r6):=H
              have A69:=Aside0.mk A690
              clear A690
              by_cases c70 : (t181.size : Int) > 512
              ·rw [if_pos c70] at H
               have c70b0 : decide (512 < (t181.size : Int)) = true:=decide_eq_true c70
               have c70b1 : decide (512 < t181.size) = true:=decide_eq_true (by omega)
               clear c70
               simp only [Option.some.injEq,Prod.mk.injEq] at H
               obtain ⟨rfl,rfl,rfl,rfl,rfl,rfl⟩:=H
               try go_wp2
               have n0_:=Aside0.mk (blk_drew BK160.out)
               have n1_:=Aside0.mk (blk_drew BK172.out)
               have n2_:=Aside0.mk (below_drew1 HB.out)
               clear BK160
               clear BK172
               clear HB
               have BK160:=n0_
               have BK172:=n1_
               have HB:=n2_
               clear n0_ n1_ n2_
               refine start_ (n:=6) (S:=fun w' => w'.cell? ⟨gb172,0,none⟩ = some (.string t168) ∧ w'.cell? ⟨gb172,1,none⟩ = some (.string t169) ∧ w'.cell? ⟨gb172,2,none⟩ = some (.int .i64 t170)) (ds:=[]) #[false,false,false,false,false,false] (by kernel_rfl) rfl rfl ⟨(blk_cell BK172.out 0).trans rfl,(blk_cell BK172.out 1).trans rfl,(blk_cell BK172.out 2).trans rfl⟩ (fun hHeld => ?_)
               generalize wc.drew = w71 at BK160 BK172 HB hHeld ⊢
               refine pure_ (i:=1) (N:=some 71) (v:=?_) (a':=?_) #[false,true,false,false,false,false] rfl rfl (by kernel_rfl) (fun _ _ _ h => h) (Or.inl ⟨by rfl,?_⟩) ?_ ?_
               rotate_left
               ·intro w'
                go_simp
                with_reducible rfl
               rotate_left
               ·simp only [Act.put,List.setIfInBounds_toArray,List.set_cons_zero,List.set_cons_succ,i64_w,i32_w]
                rfl
               refine take_ (i:=0) (N:=some 70) (v:=?_) (a':=?_) #[true,true,false,false,false,false] rfl rfl (by kernel_rfl) (fun _ _ _ h => h) (Or.inl ⟨by rfl,?_⟩) hHeld ?_ ?_
               rotate_left
               ·rintro w' ⟨s0,s1,s2⟩
                go_simp
                with_reducible rfl
               rotate_left
               ·simp only [Act.put,List.setIfInBounds_toArray,List.set_cons_zero,List.set_cons_succ,i64_w,i32_w]
                rfl
               refine join_ (σ:=Nat) 1 #[true,true,true,true,true,false] (fun s_ => [(72,.string t178),(13,.pointer (some ⟨s_,0,none⟩)),(73,.agg #[.string t168,.string t169,.int .i64 t170,.string t178,.string (⟨#[]⟩ : ByteArray)])]) (fun s_ w' => (w'.cell? ⟨gb172,0,none⟩ = some (.string t168) ∧ w'.cell? ⟨gb172,1,none⟩ = some (.string t169) ∧ w'.cell? ⟨gb172,2,none⟩ = some (.int .i64 t170)) ∧ (w'.heap[gb160]? = some (.cells #[.string (⟨#[]⟩ : ByteArray),.string (⟨#[]⟩ : ByteArray),.int .i64 0,.string (⟨#[]⟩ : ByteArray),.string (⟨#[]⟩ : ByteArray)] 44 (0,0))) ∧ (w'.heap[gb172]? = some (.cells #[.string t168,.string t169,.int .i64 t170] 23 (0,0))) ∧ (w'.heap[s_]? = some (.cells #[.string (⟨#[]⟩ : ByteArray),.string (⟨#[]⟩ : ByteArray),.int .i64 0,.string (⟨#[]⟩ : ByteArray),.string (⟨#[]⟩ : ByteArray)] 44 (0,0))) ∧ (w.heap.size ≤ s_) ∧ (w.heap.size ≤ s_) ∧ (gb160 ≠ s_) ∧ (s_ ≠ gb160) ∧ (gb172 ≠ s_) ∧ (s_ ≠ gb172) ∧ (Below w.heap.size w w')) ?_ ?_
               rotate_left
               ·intro hCont
                refine two_ (i:=2) (j:=4) (Ni:=some 72) (Nj:=some 13) #[true,true,true,false,false,false] #[true,true,false,false,true,false] rfl rfl rfl rfl (by kernel_rfl) (by decide) (by decide) (fun K hK => ?_) (fun K hK => ?_)
                ·skip
                 refine goes_ Tryd.func36 (by kernel_rfl) rfl #[.string t173] (by rfl) rfl rfl (by (try simp only [List.map_toArray,List.map_cons,List.map_nil]);first|done|rfl|(simp only [List.length_drop,List.length_take];rfl)) ?_
                 with_reducible refine (target_Clean.calls kj21 t173 t178 _ A33.out).mono ?_
                 rintro e w72 ⟨rfl,hb⟩
                 refine ⟨_,rfl,?_⟩
                 have n0_:=Aside0.mk (blk_below (g:=gb160) (o:=.cells #[.string (⟨#[]⟩ : ByteArray),.string (⟨#[]⟩ : ByteArray),.int .i64 0,.string (⟨#[]⟩ : ByteArray),.string (⟨#[]⟩ : ByteArray)] 44 (0,0)) (by (with_reducible repeat (first|refine blk_drewN ?_ _|refine blk_drew ?_|refine blk_alloc ?_ _));exact BK160.out) hb)
                 have n1_:=Aside0.mk (blk_below (g:=gb172) (o:=.cells #[.string t168,.string t169,.int .i64 t170] 23 (0,0)) (by (with_reducible repeat (first|refine blk_drewN ?_ _|refine blk_drew ?_|refine blk_alloc ?_ _));exact BK172.out) hb)
                 have n2_:=Aside0.mk (below_step (by repeat (first|(with_reducible first|exact HB.out|apply below_alloc|apply pw_below_drewN|apply below_drew1|refine below_set ?_ GE160.out|refine below_set ?_ GE172.out)|exact HB.out)) hb)
                 clear BK160
                 clear BK172
                 clear HB
                 have BK160:=n0_
                 have BK172:=n1_
                 have HB:=n2_
                 clear n0_ n1_ n2_
                 (try clear hb)
                 (try clear hb2)
                 (try clear hk)
                 (try clear hi)
                 refine hK.out _ _ ⟨(blk_cell BK172.out 0).trans rfl,(blk_cell BK172.out 1).trans rfl,(blk_cell BK172.out 2).trans rfl⟩ (fun hHeld => ?_)
                 clear hK K
                 refine norm_ (a':=?_) ?_ ?_
                 rotate_left
                 ·show Act.put _ (some 72) _ = _
                  simp only [Act.put,List.setIfInBounds_toArray,List.set_cons_zero,List.set_cons_succ,i64_w,i32_w]
                  rfl
                 refine pure_ (i:=3) (N:=some 73) (v:=?_) (a':=?_) #[true,true,true,true,false,false] rfl rfl (by kernel_rfl) (fun _ _ _ h => h) (Or.inl ⟨by rfl,?_⟩) ?_ ?_
                 rotate_left
                 ·intro w'
                  go_simp
                  with_reducible rfl
                 rotate_left
                 ·simp only [Act.put,List.setIfInBounds_toArray,List.set_cons_zero,List.set_cons_succ,i64_w,i32_w]
                  rfl
                 refine one_ (i:=4) (N:=some 13) #[true,true,true,true,true,false] rfl rfl (by kernel_rfl) (by decide) (fun K hK => ?_)
                 refine box_step ?hg (N:=13) ?hd (cs:=#[.string (⟨#[]⟩ : ByteArray),.string (⟨#[]⟩ : ByteArray),.int .i64 0,.string (⟨#[]⟩ : ByteArray),.string (⟨#[]⟩ : ByteArray)]) (t:=44) ?hr ?_;(case hd => rfl);(case hg => rfl);(case hr => first|(go_simp;done)|(go_simp;rfl))
                 intro gb179 hg w73 hbox hb
                 have n0_:=Aside0.mk (blk_below (g:=gb160) (o:=.cells #[.string (⟨#[]⟩ : ByteArray),.string (⟨#[]⟩ : ByteArray),.int .i64 0,.string (⟨#[]⟩ : ByteArray),.string (⟨#[]⟩ : ByteArray)] 44 (0,0)) (by (with_reducible repeat (first|refine blk_drewN ?_ _|refine blk_drew ?_|refine blk_alloc ?_ _));exact BK160.out) hb)
                 have n1_:=Aside0.mk (blk_below (g:=gb172) (o:=.cells #[.string t168,.string t169,.int .i64 t170] 23 (0,0)) (by (with_reducible repeat (first|refine blk_drewN ?_ _|refine blk_drew ?_|refine blk_alloc ?_ _));exact BK172.out) hb)
                 have n2_:=Aside0.mk (below_step (by repeat (first|(with_reducible first|exact HB.out|apply below_alloc|apply pw_below_drewN|apply below_drew1|refine below_set ?_ GE160.out|refine below_set ?_ GE172.out)|exact HB.out)) hb)
                 have n3_:=Aside0.mk (hbox)
                 have n4_:=Aside0.mk ((by rw [hg];exact (below_size (by repeat (first|(with_reducible first|exact HB.out|apply below_alloc|apply pw_below_drewN|apply below_drew1|refine below_set ?_ GE160.out|refine below_set ?_ GE172.out)|exact HB.out))) : w.heap.size ≤ gb179))
                 have n5_:=Aside0.mk ((by rw [hg];exact (below_size (by repeat (first|(with_reducible first|exact HB.out|apply below_alloc|apply pw_below_drewN|apply below_drew1|refine below_set ?_ GE160.out|refine below_set ?_ GE172.out)|exact HB.out))) : w.heap.size ≤ gb179))
                 have n6_:=Aside0.mk ((by rw [hg];exact Nat.ne_of_lt (blk_lt (g:=gb160) (o:=.cells #[.string (⟨#[]⟩ : ByteArray),.string (⟨#[]⟩ : ByteArray),.int .i64 0,.string (⟨#[]⟩ : ByteArray),.string (⟨#[]⟩ : ByteArray)] 44 (0,0)) (by (with_reducible repeat (first|refine blk_drewN ?_ _|refine blk_drew ?_|refine blk_alloc ?_ _));exact BK160.out)) : gb160 ≠ gb179))
                 have n7_:=Aside0.mk ((by rw [hg];exact Nat.ne_of_gt (blk_lt (g:=gb160) (o:=.cells #[.string (⟨#[]⟩ : ByteArray),.string (⟨#[]⟩ : ByteArray),.int .i64 0,.string (⟨#[]⟩ : ByteArray),.string (⟨#[]⟩ : ByteArray)] 44 (0,0)) (by (with_reducible repeat (first|refine blk_drewN ?_ _|refine blk_drew ?_|refine blk_alloc ?_ _));exact BK160.out)) : gb179 ≠ gb160))
                 have n8_:=Aside0.mk ((by rw [hg];exact Nat.ne_of_lt (blk_lt (g:=gb172) (o:=.cells #[.string t168,.string t169,.int .i64 t170] 23 (0,0)) (by (with_reducible repeat (first|refine blk_drewN ?_ _|refine blk_drew ?_|refine blk_alloc ?_ _));exact BK172.out)) : gb172 ≠ gb179))
                 have n9_:=Aside0.mk ((by rw [hg];exact Nat.ne_of_gt (blk_lt (g:=gb172) (o:=.cells #[.string t168,.string t169,.int .i64 t170] 23 (0,0)) (by (with_reducible repeat (first|refine blk_drewN ?_ _|refine blk_drew ?_|refine blk_alloc ?_ _));exact BK172.out)) : gb179 ≠ gb172))
                 clear BK160
                 clear BK172
                 clear HB
                 have BK160:=n0_
                 have BK172:=n1_
                 have HB:=n2_
                 have BK179:=n3_
                 have GW179:=n4_
                 have GE179:=n5_
                 have NB160_179:=n6_
                 have NB179_160:=n7_
                 have NB172_179:=n8_
                 have NB179_172:=n9_
                 clear n0_ n1_ n2_ n3_ n4_ n5_ n6_ n7_ n8_ n9_
                 clear hb hbox hg
                 refine hK.out _ _ ⟨(blk_cell BK172.out 0).trans rfl,(blk_cell BK172.out 1).trans rfl,(blk_cell BK172.out 2).trans rfl⟩ (fun hHeld => ?_)
                 clear hK K
                 refine norm_ (a':=?_) ?_ ?_
                 rotate_left
                 ·show Act.put _ (some 13) _ = _
                  simp only [Act.put,List.setIfInBounds_toArray,List.set_cons_zero,List.set_cons_succ,i64_w,i32_w]
                  rfl
                 exact norm_ (by simp only [putAll,Act.put,List.setIfInBounds_toArray,List.set_cons_zero,List.set_cons_succ]) (hCont (gb179) _ ⟨hHeld,(by (with_reducible repeat (first|refine blk_drewN ?_ _|refine blk_drew ?_|refine blk_alloc ?_ _));exact BK160.out),(by (with_reducible repeat (first|refine blk_drewN ?_ _|refine blk_drew ?_|refine blk_alloc ?_ _));exact BK172.out),(by (with_reducible repeat (first|refine blk_drewN ?_ _|refine blk_drew ?_|refine blk_alloc ?_ _));exact BK179.out),GW179.out,GE179.out,NB160_179.out,NB179_160.out,NB172_179.out,NB179_172.out,(by repeat (first|(with_reducible first|exact HB.out|apply below_alloc|apply pw_below_drewN|apply below_drew1|refine below_set ?_ GE160.out|refine below_set ?_ GE172.out|refine below_set ?_ GE179.out)|exact HB.out))⟩)
                ·skip
                 refine box_step ?hg (N:=13) ?hd (cs:=#[.string (⟨#[]⟩ : ByteArray),.string (⟨#[]⟩ : ByteArray),.int .i64 0,.string (⟨#[]⟩ : ByteArray),.string (⟨#[]⟩ : ByteArray)]) (t:=44) ?hr ?_;(case hd => rfl);(case hg => rfl);(case hr => first|(go_simp;done)|(go_simp;rfl))
                 intro gb179 hg w72 hbox hb
                 have n0_:=Aside0.mk (blk_below (g:=gb160) (o:=.cells #[.string (⟨#[]⟩ : ByteArray),.string (⟨#[]⟩ : ByteArray),.int .i64 0,.string (⟨#[]⟩ : ByteArray),.string (⟨#[]⟩ : ByteArray)] 44 (0,0)) (by (with_reducible repeat (first|refine blk_drewN ?_ _|refine blk_drew ?_|refine blk_alloc ?_ _));exact BK160.out) hb)
                 have n1_:=Aside0.mk (blk_below (g:=gb172) (o:=.cells #[.string t168,.string t169,.int .i64 t170] 23 (0,0)) (by (with_reducible repeat (first|refine blk_drewN ?_ _|refine blk_drew ?_|refine blk_alloc ?_ _));exact BK172.out) hb)
                 have n2_:=Aside0.mk (below_step (by repeat (first|(with_reducible first|exact HB.out|apply below_alloc|apply pw_below_drewN|apply below_drew1|refine below_set ?_ GE160.out|refine below_set ?_ GE172.out)|exact HB.out)) hb)
                 have n3_:=Aside0.mk (hbox)
                 have n4_:=Aside0.mk ((by rw [hg];exact (below_size (by repeat (first|(with_reducible first|exact HB.out|apply below_alloc|apply pw_below_drewN|apply below_drew1|refine below_set ?_ GE160.out|refine below_set ?_ GE172.out)|exact HB.out))) : w.heap.size ≤ gb179))
                 have n5_:=Aside0.mk ((by rw [hg];exact (below_size (by repeat (first|(with_reducible first|exact HB.out|apply below_alloc|apply pw_below_drewN|apply below_drew1|refine below_set ?_ GE160.out|refine below_set ?_ GE172.out)|exact HB.out))) : w.heap.size ≤ gb179))
                 have n6_:=Aside0.mk ((by rw [hg];exact Nat.ne_of_lt (blk_lt (g:=gb160) (o:=.cells #[.string (⟨#[]⟩ : ByteArray),.string (⟨#[]⟩ : ByteArray),.int .i64 0,.string (⟨#[]⟩ : ByteArray),.string (⟨#[]⟩ : ByteArray)] 44 (0,0)) (by (with_reducible repeat (first|refine blk_drewN ?_ _|refine blk_drew ?_|refine blk_alloc ?_ _));exact BK160.out)) : gb160 ≠ gb179))
                 have n7_:=Aside0.mk ((by rw [hg];exact Nat.ne_of_gt (blk_lt (g:=gb160) (o:=.cells #[.string (⟨#[]⟩ : ByteArray),.string (⟨#[]⟩ : ByteArray),.int .i64 0,.string (⟨#[]⟩ : ByteArray),.string (⟨#[]⟩ : ByteArray)] 44 (0,0)) (by (with_reducible repeat (first|refine blk_drewN ?_ _|refine blk_drew ?_|refine blk_alloc ?_ _));exact BK160.out)) : gb179 ≠ gb160))
                 have n8_:=Aside0.mk ((by rw [hg];exact Nat.ne_of_lt (blk_lt (g:=gb172) (o:=.cells #[.string t168,.string t169,.int .i64 t170] 23 (0,0)) (by (with_reducible repeat (first|refine blk_drewN ?_ _|refine blk_drew ?_|refine blk_alloc ?_ _));exact BK172.out)) : gb172 ≠ gb179))
                 have n9_:=Aside0.mk ((by rw [hg];exact Nat.ne_of_gt (blk_lt (g:=gb172) (o:=.cells #[.string t168,.string t169,.int .i64 t170] 23 (0,0)) (by (with_reducible repeat (first|refine blk_drewN ?_ _|refine blk_drew ?_|refine blk_alloc ?_ _));exact BK172.out)) : gb179 ≠ gb172))
                 clear BK160
                 clear BK172
                 clear HB
                 have BK160:=n0_
                 have BK172:=n1_
                 have HB:=n2_
                 have BK179:=n3_
                 have GW179:=n4_
                 have GE179:=n5_
                 have NB160_179:=n6_
                 have NB179_160:=n7_
                 have NB172_179:=n8_
                 have NB179_172:=n9_
                 clear n0_ n1_ n2_ n3_ n4_ n5_ n6_ n7_ n8_ n9_
                 clear hb hbox hg
                 refine hK.out _ _ ⟨(blk_cell BK172.out 0).trans rfl,(blk_cell BK172.out 1).trans rfl,(blk_cell BK172.out 2).trans rfl⟩ (fun hHeld => ?_)
                 clear hK K
                 refine norm_ (a':=?_) ?_ ?_
                 rotate_left
                 ·show Act.put _ (some 13) _ = _
                  simp only [Act.put,List.setIfInBounds_toArray,List.set_cons_zero,List.set_cons_succ,i64_w,i32_w]
                  rfl
                 refine one_ (i:=2) (N:=some 72) #[true,true,true,false,true,false] rfl rfl (by kernel_rfl) (by decide) (fun K hK => ?_)
                 refine goes_ Tryd.func36 (by kernel_rfl) rfl #[.string t173] (by rfl) rfl rfl (by (try simp only [List.map_toArray,List.map_cons,List.map_nil]);first|done|rfl|(simp only [List.length_drop,List.length_take];rfl)) ?_
                 with_reducible refine (target_Clean.calls kj21 t173 t178 _ A33.out).mono ?_
                 rintro e w73 ⟨rfl,hb⟩
                 refine ⟨_,rfl,?_⟩
                 have n0_:=Aside0.mk (blk_below (g:=gb160) (o:=.cells #[.string (⟨#[]⟩ : ByteArray),.string (⟨#[]⟩ : ByteArray),.int .i64 0,.string (⟨#[]⟩ : ByteArray),.string (⟨#[]⟩ : ByteArray)] 44 (0,0)) (by (with_reducible repeat (first|refine blk_drewN ?_ _|refine blk_drew ?_|refine blk_alloc ?_ _));exact BK160.out) hb)
                 have n1_:=Aside0.mk (blk_below (g:=gb172) (o:=.cells #[.string t168,.string t169,.int .i64 t170] 23 (0,0)) (by (with_reducible repeat (first|refine blk_drewN ?_ _|refine blk_drew ?_|refine blk_alloc ?_ _));exact BK172.out) hb)
                 have n2_:=Aside0.mk (blk_below (g:=gb179) (o:=.cells #[.string (⟨#[]⟩ : ByteArray),.string (⟨#[]⟩ : ByteArray),.int .i64 0,.string (⟨#[]⟩ : ByteArray),.string (⟨#[]⟩ : ByteArray)] 44 (0,0)) (by (with_reducible repeat (first|refine blk_drewN ?_ _|refine blk_drew ?_|refine blk_alloc ?_ _));exact BK179.out) hb)
                 have n3_:=Aside0.mk (below_step (by repeat (first|(with_reducible first|exact HB.out|apply below_alloc|apply pw_below_drewN|apply below_drew1|refine below_set ?_ GE160.out|refine below_set ?_ GE172.out|refine below_set ?_ GE179.out)|exact HB.out)) hb)
                 clear BK160
                 clear BK172
                 clear BK179
                 clear HB
                 have BK160:=n0_
                 have BK172:=n1_
                 have BK179:=n2_
                 have HB:=n3_
                 clear n0_ n1_ n2_ n3_
                 (try clear hb)
                 (try clear hb2)
                 (try clear hk)
                 (try clear hi)
                 refine hK.out _ _ ⟨(blk_cell BK172.out 0).trans rfl,(blk_cell BK172.out 1).trans rfl,(blk_cell BK172.out 2).trans rfl⟩ (fun hHeld => ?_)
                 clear hK K
                 refine norm_ (a':=?_) ?_ ?_
                 rotate_left
                 ·show Act.put _ (some 72) _ = _
                  simp only [Act.put,List.setIfInBounds_toArray,List.set_cons_zero,List.set_cons_succ,i64_w,i32_w]
                  rfl
                 refine pure_ (i:=3) (N:=some 73) (v:=?_) (a':=?_) #[true,true,true,true,true,false] rfl rfl (by kernel_rfl) (fun _ _ _ h => h) (Or.inl ⟨by rfl,?_⟩) ?_ ?_
                 rotate_left
                 ·intro w'
                  go_simp
                  with_reducible rfl
                 rotate_left
                 ·simp only [Act.put,List.setIfInBounds_toArray,List.set_cons_zero,List.set_cons_succ,i64_w,i32_w]
                  rfl
                 exact norm_ (by simp only [putAll,Act.put,List.setIfInBounds_toArray,List.set_cons_zero,List.set_cons_succ]) (hCont (gb179) _ ⟨hHeld,(by (with_reducible repeat (first|refine blk_drewN ?_ _|refine blk_drew ?_|refine blk_alloc ?_ _));exact BK160.out),(by (with_reducible repeat (first|refine blk_drewN ?_ _|refine blk_drew ?_|refine blk_alloc ?_ _));exact BK172.out),(by (with_reducible repeat (first|refine blk_drewN ?_ _|refine blk_drew ?_|refine blk_alloc ?_ _));exact BK179.out),GW179.out,GE179.out,NB160_179.out,NB179_160.out,NB172_179.out,NB179_172.out,(by repeat (first|(with_reducible first|exact HB.out|apply below_alloc|apply pw_below_drewN|apply below_drew1|refine below_set ?_ GE160.out|refine below_set ?_ GE172.out|refine below_set ?_ GE179.out)|exact HB.out))⟩)
               rintro gb179 w74 ⟨hS_,h0_,h1_,h2_,h3_,h4_,h5_,h6_,h7_,h8_,h9_⟩
               have n0_ : Aside0 (w74.heap[gb160]? = some (.cells #[.string (⟨#[]⟩ : ByteArray),.string (⟨#[]⟩ : ByteArray),.int .i64 0,.string (⟨#[]⟩ : ByteArray),.string (⟨#[]⟩ : ByteArray)] 44 (0,0))):=⟨h0_⟩
               have n1_ : Aside0 (w74.heap[gb172]? = some (.cells #[.string t168,.string t169,.int .i64 t170] 23 (0,0))):=⟨h1_⟩
               have n2_ : Aside0 (w74.heap[gb179]? = some (.cells #[.string (⟨#[]⟩ : ByteArray),.string (⟨#[]⟩ : ByteArray),.int .i64 0,.string (⟨#[]⟩ : ByteArray),.string (⟨#[]⟩ : ByteArray)] 44 (0,0))):=⟨h2_⟩
               have n3_ : Aside0 (w.heap.size ≤ gb179):=⟨h3_⟩
               have n4_ : Aside0 (w.heap.size ≤ gb179):=⟨h4_⟩
               have n5_ : Aside0 (gb160 ≠ gb179):=⟨h5_⟩
               have n6_ : Aside0 (gb179 ≠ gb160):=⟨h6_⟩
               have n7_ : Aside0 (gb172 ≠ gb179):=⟨h7_⟩
               have n8_ : Aside0 (gb179 ≠ gb172):=⟨h8_⟩
               have n9_ : Aside0 (Below w.heap.size w w74):=⟨h9_⟩
               clear BK160
               clear BK172
               clear HB
               clear h0_ h1_ h2_ h3_ h4_ h5_ h6_ h7_ h8_ h9_
               have BK160:=n0_
               have BK172:=n1_
               have BK179:=n2_
               have GW179:=n3_
               have GE179:=n4_
               have NB160_179:=n5_
               have NB179_160:=n6_
               have NB172_179:=n7_
               have NB179_172:=n8_
               have HB:=n9_
               clear n0_ n1_ n2_ n3_ n4_ n5_ n6_ n7_ n8_ n9_
               have hHeld : w74.cell? ⟨gb172,0,none⟩ = some (.string t168) ∧ w74.cell? ⟨gb172,1,none⟩ = some (.string t169) ∧ w74.cell? ⟨gb172,2,none⟩ = some (.int .i64 t170):=hS_
               refine norm_ (a':=?_) ?_ ?_
               rotate_left
               ·simp only [putAll,Act.put,List.setIfInBounds_toArray,List.set_cons_zero,List.set_cons_succ]
                rfl
               refine one_ (i:=5) (N:=none) #[true,true,true,true,true,true] rfl rfl (by kernel_rfl) (by decide) (fun K hK => ?_)
               have hs75 : w74.cell? ⟨gb179,0,none⟩ = some (.string (⟨#[]⟩ : ByteArray)):=(blk_cell BK179.out 0).trans rfl
               have hfs75:=blk_frozen BK179.out 0
               have hns75_0:=NB160_179.out
               have hns75_1:=NB172_179.out
               have hms75_0:=NB179_160.out
               have hms75_1:=NB179_172.out
               have hs76 : w74.cell? ⟨gb179,1,none⟩ = some (.string (⟨#[]⟩ : ByteArray)):=(blk_cell BK179.out 1).trans rfl
               have hfs76:=blk_frozen BK179.out 1
               have hns76_0:=NB160_179.out
               have hns76_1:=NB172_179.out
               have hms76_0:=NB179_160.out
               have hms76_1:=NB179_172.out
               have hs77 : w74.cell? ⟨gb179,2,none⟩ = some (.int .i64 0):=(blk_cell BK179.out 2).trans rfl
               have hfs77:=blk_frozen BK179.out 2
               have hns77_0:=NB160_179.out
               have hns77_1:=NB172_179.out
               have hms77_0:=NB179_160.out
               have hms77_1:=NB179_172.out
               have hs78 : w74.cell? ⟨gb179,3,none⟩ = some (.string (⟨#[]⟩ : ByteArray)):=(blk_cell BK179.out 3).trans rfl
               have hfs78:=blk_frozen BK179.out 3
               have hns78_0:=NB160_179.out
               have hns78_1:=NB172_179.out
               have hms78_0:=NB179_160.out
               have hms78_1:=NB179_172.out
               have hs79 : w74.cell? ⟨gb179,4,none⟩ = some (.string (⟨#[]⟩ : ByteArray)):=(blk_cell BK179.out 4).trans rfl
               have hfs79:=blk_frozen BK179.out 4
               have hns79_0:=NB160_179.out
               have hns79_1:=NB172_179.out
               have hms79_0:=NB179_160.out
               have hms79_1:=NB179_172.out
               refine skip_ (w1:=?_) (by rfl) rfl ?_ ?_
               rotate_left
               ·go_simp
                rfl
               refine hK.out _ _ ⟨((cell_far (p:=⟨gb179,_,none⟩) NB172_179.out _).trans (((cell_far (p:=⟨gb179,_,none⟩) NB172_179.out _).trans (((cell_far (p:=⟨gb179,_,none⟩) NB172_179.out _).trans (((cell_far (p:=⟨gb179,_,none⟩) NB172_179.out _).trans (((cell_far (p:=⟨gb179,_,none⟩) NB172_179.out _).trans (hHeld.1)))))))))),((cell_far (p:=⟨gb179,_,none⟩) NB172_179.out _).trans (((cell_far (p:=⟨gb179,_,none⟩) NB172_179.out _).trans (((cell_far (p:=⟨gb179,_,none⟩) NB172_179.out _).trans (((cell_far (p:=⟨gb179,_,none⟩) NB172_179.out _).trans (((cell_far (p:=⟨gb179,_,none⟩) NB172_179.out _).trans (hHeld.2.1)))))))))),((cell_far (p:=⟨gb179,_,none⟩) NB172_179.out _).trans (((cell_far (p:=⟨gb179,_,none⟩) NB172_179.out _).trans (((cell_far (p:=⟨gb179,_,none⟩) NB172_179.out _).trans (((cell_far (p:=⟨gb179,_,none⟩) NB172_179.out _).trans (((cell_far (p:=⟨gb179,_,none⟩) NB172_179.out _).trans (hHeld.2.2))))))))))⟩ (fun hHeld => ?_)
               clear hK K
               refine done_ (by kernel_rfl) ?_
               have hnb80:=NB179_160.out
               have hnc80:=NB160_179.out
               have hnb81:=NB179_172.out
               have hnc81:=NB172_179.out
               have hcz82_0 : w74.cell? ⟨gb179,0,none⟩ = some (.string (⟨#[]⟩ : ByteArray)):=(blk_cell BK179.out 0).trans rfl
               have hcz82_1 : w74.cell? ⟨gb179,1,none⟩ = some (.string (⟨#[]⟩ : ByteArray)):=(blk_cell BK179.out 1).trans rfl
               have hcz82_2 : w74.cell? ⟨gb179,2,none⟩ = some (.int .i64 0):=(blk_cell BK179.out 2).trans rfl
               have hcz82_3 : w74.cell? ⟨gb179,3,none⟩ = some (.string (⟨#[]⟩ : ByteArray)):=(blk_cell BK179.out 3).trans rfl
               have hcz82_4 : w74.cell? ⟨gb179,4,none⟩ = some (.string (⟨#[]⟩ : ByteArray)):=(blk_cell BK179.out 4).trans rfl
               have hfz82_0:=blk_frozen BK179.out 0
               have hfz82_1:=blk_frozen BK179.out 1
               have hfz82_2:=blk_frozen BK179.out 2
               have hfz82_3:=blk_frozen BK179.out 3
               have hfz82_4:=blk_frozen BK179.out 4
               have z160_ : Aside0 ((((((w74.setCell ⟨gb179,0,none⟩ (.string t168)).setCell ⟨gb179,1,none⟩ (.string t169)).setCell ⟨gb179,2,none⟩ (.int .i64 t170)).setCell ⟨gb179,3,none⟩ (.string t178)).setCell ⟨gb179,4,none⟩ (.string (⟨#[]⟩ : ByteArray))).heap[gb160]? = some (.cells #[.string (⟨#[]⟩ : ByteArray),.string (⟨#[]⟩ : ByteArray),.int .i64 0,.string (⟨#[]⟩ : ByteArray),.string (⟨#[]⟩ : ByteArray)] 44 (0,0))):=⟨by refine blk_far ?_ NB160_179.out _;refine blk_far ?_ NB160_179.out _;refine blk_far ?_ NB160_179.out _;refine blk_far ?_ NB160_179.out _;refine blk_far ?_ NB160_179.out _;exact BK160.out⟩
               have z172_ : Aside0 ((((((w74.setCell ⟨gb179,0,none⟩ (.string t168)).setCell ⟨gb179,1,none⟩ (.string t169)).setCell ⟨gb179,2,none⟩ (.int .i64 t170)).setCell ⟨gb179,3,none⟩ (.string t178)).setCell ⟨gb179,4,none⟩ (.string (⟨#[]⟩ : ByteArray))).heap[gb172]? = some (.cells #[.string t168,.string t169,.int .i64 t170] 23 (0,0))):=⟨by refine blk_far ?_ NB172_179.out _;refine blk_far ?_ NB172_179.out _;refine blk_far ?_ NB172_179.out _;refine blk_far ?_ NB172_179.out _;refine blk_far ?_ NB172_179.out _;exact BK172.out⟩
               have z179_ : Aside0 ((((((w74.setCell ⟨gb179,0,none⟩ (.string t168)).setCell ⟨gb179,1,none⟩ (.string t169)).setCell ⟨gb179,2,none⟩ (.int .i64 t170)).setCell ⟨gb179,3,none⟩ (.string t178)).setCell ⟨gb179,4,none⟩ (.string (⟨#[]⟩ : ByteArray))).heap[gb179]? = some (.cells #[.string t168,.string t169,.int .i64 t170,.string t178,.string (⟨#[]⟩ : ByteArray)] 44 (0,0))):=⟨by refine blk_put (cs:=#[.string t168,.string t169,.int .i64 t170,.string t178,.string (⟨#[]⟩ : ByteArray)]) ?_ 4 _ rfl;refine blk_put (cs:=#[.string t168,.string t169,.int .i64 t170,.string (⟨#[]⟩ : ByteArray),.string (⟨#[]⟩ : ByteArray)]) ?_ 3 _ rfl;refine blk_put (cs:=#[.string t168,.string t169,.int .i64 0,.string (⟨#[]⟩ : ByteArray),.string (⟨#[]⟩ : ByteArray)]) ?_ 2 _ rfl;refine blk_put (cs:=#[.string t168,.string (⟨#[]⟩ : ByteArray),.int .i64 0,.string (⟨#[]⟩ : ByteArray),.string (⟨#[]⟩ : ByteArray)]) ?_ 1 _ rfl;refine blk_put (cs:=#[.string (⟨#[]⟩ : ByteArray),.string (⟨#[]⟩ : ByteArray),.int .i64 0,.string (⟨#[]⟩ : ByteArray),.string (⟨#[]⟩ : ByteArray)]) ?_ 0 _ rfl;exact BK179.out⟩
               have zB_ : Aside0 (Below w.heap.size w (((((w74.setCell ⟨gb179,0,none⟩ (.string t168)).setCell ⟨gb179,1,none⟩ (.string t169)).setCell ⟨gb179,2,none⟩ (.int .i64 t170)).setCell ⟨gb179,3,none⟩ (.string t178)).setCell ⟨gb179,4,none⟩ (.string (⟨#[]⟩ : ByteArray)))):=⟨by refine below_set ?_ GE179.out;refine below_set ?_ GE179.out;refine below_set ?_ GE179.out;refine below_set ?_ GE179.out;refine below_set ?_ GE179.out;exact HB.out⟩
               clear BK160 BK172 BK179 HB
               try clear hHeld
               try clear hfz82_4
               try clear hfz82_3
               try clear hfz82_2
               try clear hfz82_1
               try clear hfz82_0
               try clear hcz82_4
               try clear hcz82_3
               try clear hcz82_2
               try clear hcz82_1
               try clear hcz82_0
               try clear hnc81
               try clear hnb81
               try clear hnc80
               try clear hnb80
               try clear hms79_1
               try clear hms79_0
               try clear hns79_1
               try clear hns79_0
               try clear hfs79
               try clear hs79
               try clear hms78_1
               try clear hms78_0
               try clear hns78_1
               try clear hns78_0
               try clear hfs78
               try clear hs78
               try clear hms77_1
               try clear hms77_0
               try clear hns77_1
               try clear hns77_0
               try clear hfs77
               try clear hs77
               try clear hms76_1
               try clear hms76_0
               try clear hns76_1
               try clear hns76_0
               try clear hfs76
               try clear hs76
               try clear hms75_1
               try clear hms75_0
               try clear hns75_1
               try clear hns75_0
               try clear hfs75
               try clear hs75
               have BK160:=z160_
               have BK172:=z172_
               have BK179:=z179_
               have HB:=zB_
               clear z160_ z172_ z179_ zB_
               generalize (((((w74.setCell ⟨gb179,0,none⟩ (.string t168)).setCell ⟨gb179,1,none⟩ (.string t169)).setCell ⟨gb179,2,none⟩ (.int .i64 t170)).setCell ⟨gb179,3,none⟩ (.string t178)).setCell ⟨gb179,4,none⟩ (.string (⟨#[]⟩ : ByteArray))) = wz3 at BK160 BK172 BK179 HB ⊢
               have hzz160_0 : wz3.cell? ⟨gb160,0,none⟩ = some (.string (⟨#[]⟩ : ByteArray)):=(blk_cell BK160.out 0).trans rfl
               have hzz160_1 : wz3.cell? ⟨gb160,1,none⟩ = some (.string (⟨#[]⟩ : ByteArray)):=(blk_cell BK160.out 1).trans rfl
               have hzz160_2 : wz3.cell? ⟨gb160,2,none⟩ = some (.int .i64 0):=(blk_cell BK160.out 2).trans rfl
               have hzz160_3 : wz3.cell? ⟨gb160,3,none⟩ = some (.string (⟨#[]⟩ : ByteArray)):=(blk_cell BK160.out 3).trans rfl
               have hzz160_4 : wz3.cell? ⟨gb160,4,none⟩ = some (.string (⟨#[]⟩ : ByteArray)):=(blk_cell BK160.out 4).trans rfl
               have hzf160_0:=blk_frozen BK160.out 0
               have hzf160_1:=blk_frozen BK160.out 1
               have hzf160_2:=blk_frozen BK160.out 2
               have hzf160_3:=blk_frozen BK160.out 3
               have hzf160_4:=blk_frozen BK160.out 4
               have hzz172_0 : wz3.cell? ⟨gb172,0,none⟩ = some (.string t168):=(blk_cell BK172.out 0).trans rfl
               have hzz172_1 : wz3.cell? ⟨gb172,1,none⟩ = some (.string t169):=(blk_cell BK172.out 1).trans rfl
               have hzz172_2 : wz3.cell? ⟨gb172,2,none⟩ = some (.int .i64 t170):=(blk_cell BK172.out 2).trans rfl
               have hzf172_0:=blk_frozen BK172.out 0
               have hzf172_1:=blk_frozen BK172.out 1
               have hzf172_2:=blk_frozen BK172.out 2
               have hzz179_0 : wz3.cell? ⟨gb179,0,none⟩ = some (.string t168):=(blk_cell BK179.out 0).trans rfl
               have hzz179_1 : wz3.cell? ⟨gb179,1,none⟩ = some (.string t169):=(blk_cell BK179.out 1).trans rfl
               have hzz179_2 : wz3.cell? ⟨gb179,2,none⟩ = some (.int .i64 t170):=(blk_cell BK179.out 2).trans rfl
               have hzz179_3 : wz3.cell? ⟨gb179,3,none⟩ = some (.string t178):=(blk_cell BK179.out 3).trans rfl
               have hzz179_4 : wz3.cell? ⟨gb179,4,none⟩ = some (.string (⟨#[]⟩ : ByteArray)):=(blk_cell BK179.out 4).trans rfl
               have hzf179_0:=blk_frozen BK179.out 0
               have hzf179_1:=blk_frozen BK179.out 1
               have hzf179_2:=blk_frozen BK179.out 2
               have hzf179_3:=blk_frozen BK179.out 3
               have hzf179_4:=blk_frozen BK179.out 4
               have hzn160:=NB160_179.out
               have hzm160:=NB179_160.out
               have hzn172:=NB172_179.out
               have hzm172:=NB179_172.out
               try go_wp2_with (first|((with_reducible refine gate_callee (f:=54) rfl ?_);refine goesL_ (some 79) rfl rfl Tryd.func54 (by kernel_rfl) rfl #[.agg #[.string t168,.string t169,.int .i64 t170,.string t178,.string (⟨#[]⟩ : ByteArray)]] rfl (by (try simp only [List.map_toArray,List.map_cons,List.map_nil]);first|done|rfl|(simp only [List.length_drop,List.length_take];rfl)) ?_;(with_reducible refine (target_show.calls kj21 t168 t169 t170 t178 (⟨#[]⟩ : ByteArray) t181 _ ?side1 A69.out).mono ?_);(case side1 => exact ⟨by repeat (first|(with_reducible exact hM_.out)|(with_reducible exact LaidW.below hM_.out HB.out)|(with_reducible refine LaidW.alloc ?_ _)|(with_reducible refine LaidW.drewN ?_ _)|(with_reducible refine LaidW.drew ?_)|exact LaidW.below hM_.out (by repeat (first|(with_reducible first|exact HB.out|apply below_alloc|apply pw_below_drewN|apply below_drew1|refine below_set ?_ GE160.out|refine below_set ?_ GE172.out|refine below_set ?_ GE179.out)|exact HB.out)))⟩);rintro e w83 ⟨rfl,hb⟩;refine ⟨_,rfl,?_⟩;have n0_:=Aside0.mk (blk_below (g:=gb160) (o:=.cells #[.string (⟨#[]⟩ : ByteArray),.string (⟨#[]⟩ : ByteArray),.int .i64 0,.string (⟨#[]⟩ : ByteArray),.string (⟨#[]⟩ : ByteArray)] 44 (0,0)) (by (with_reducible repeat (first|refine blk_drewN ?_ _|refine blk_drew ?_|refine blk_alloc ?_ _));exact BK160.out) hb);have n1_:=Aside0.mk (blk_below (g:=gb172) (o:=.cells #[.string t168,.string t169,.int .i64 t170] 23 (0,0)) (by (with_reducible repeat (first|refine blk_drewN ?_ _|refine blk_drew ?_|refine blk_alloc ?_ _));exact BK172.out) hb);have n2_:=Aside0.mk (blk_below (g:=gb179) (o:=.cells #[.string t168,.string t169,.int .i64 t170,.string t178,.string (⟨#[]⟩ : ByteArray)] 44 (0,0)) (by (with_reducible repeat (first|refine blk_drewN ?_ _|refine blk_drew ?_|refine blk_alloc ?_ _));exact BK179.out) hb);have n3_:=Aside0.mk (below_step (by repeat (first|(with_reducible first|exact HB.out|apply below_alloc|apply pw_below_drewN|apply below_drew1|refine below_set ?_ GE160.out|refine below_set ?_ GE172.out|refine below_set ?_ GE179.out)|exact HB.out)) hb);clear BK160;clear BK172;clear BK179;clear HB;have BK160:=n0_;have BK172:=n1_;have BK179:=n2_;have HB:=n3_;clear n0_ n1_ n2_ n3_;(try clear hb);(try clear hb2);(try clear hk);(try clear hi);have hnb84:=NB160_172.out;have hnc84:=NB172_160.out;have hcz85_0 : w83.cell? ⟨gb160,0,none⟩ = some (.string (⟨#[]⟩ : ByteArray)):=(blk_cell BK160.out 0).trans rfl;have hcz85_1 : w83.cell? ⟨gb160,1,none⟩ = some (.string (⟨#[]⟩ : ByteArray)):=(blk_cell BK160.out 1).trans rfl;have hcz85_2 : w83.cell? ⟨gb160,2,none⟩ = some (.int .i64 0):=(blk_cell BK160.out 2).trans rfl;have hcz85_3 : w83.cell? ⟨gb160,3,none⟩ = some (.string (⟨#[]⟩ : ByteArray)):=(blk_cell BK160.out 3).trans rfl;have hcz85_4 : w83.cell? ⟨gb160,4,none⟩ = some (.string (⟨#[]⟩ : ByteArray)):=(blk_cell BK160.out 4).trans rfl;have hfz85_0:=blk_frozen BK160.out 0;have hfz85_1:=blk_frozen BK160.out 1;have hfz85_2:=blk_frozen BK160.out 2;have hfz85_3:=blk_frozen BK160.out 3;have hfz85_4:=blk_frozen BK160.out 4))
               refine bodyPost_ret (results_ct rfl _ _ gb160 44 #[.string (⟨#[]⟩ : ByteArray),.string (⟨#[]⟩ : ByteArray),.int .i64 0,.string (⟨#[]⟩ : ByteArray),.string (⟨#[]⟩ : ByteArray)] (0,0) _ rfl (by (with_reducible repeat (first|refine blk_drewN ?_ _|refine blk_drew ?_|refine blk_alloc ?_ _));refine blk_put (cs:=#[.string (⟨#[]⟩ : ByteArray),.string (⟨#[]⟩ : ByteArray),.int .i64 0,.string (⟨#[]⟩ : ByteArray),.string (⟨#[]⟩ : ByteArray)]) ?_ 4 _ rfl;(with_reducible repeat (first|refine blk_drewN ?_ _|refine blk_drew ?_|refine blk_alloc ?_ _));refine blk_put (cs:=#[.string (⟨#[]⟩ : ByteArray),.string (⟨#[]⟩ : ByteArray),.int .i64 0,.string (⟨#[]⟩ : ByteArray),.string (⟨#[]⟩ : ByteArray)]) ?_ 3 _ rfl;(with_reducible repeat (first|refine blk_drewN ?_ _|refine blk_drew ?_|refine blk_alloc ?_ _));refine blk_put (cs:=#[.string (⟨#[]⟩ : ByteArray),.string (⟨#[]⟩ : ByteArray),.int .i64 0,.string (⟨#[]⟩ : ByteArray),.string (⟨#[]⟩ : ByteArray)]) ?_ 2 _ rfl;(with_reducible repeat (first|refine blk_drewN ?_ _|refine blk_drew ?_|refine blk_alloc ?_ _));refine blk_put (cs:=#[.string (⟨#[]⟩ : ByteArray),.string (⟨#[]⟩ : ByteArray),.int .i64 0,.string (⟨#[]⟩ : ByteArray),.string (⟨#[]⟩ : ByteArray)]) ?_ 1 _ rfl;(with_reducible repeat (first|refine blk_drewN ?_ _|refine blk_drew ?_|refine blk_alloc ?_ _));refine blk_put (cs:=#[.string (⟨#[]⟩ : ByteArray),.string (⟨#[]⟩ : ByteArray),.int .i64 0,.string (⟨#[]⟩ : ByteArray),.string (⟨#[]⟩ : ByteArray)]) ?_ 0 _ rfl;(with_reducible repeat (first|refine blk_drewN ?_ _|refine blk_drew ?_|refine blk_alloc ?_ _));exact BK160.out) Tryd.underlying44 rfl (by kernel_rfl)) rfl ?_
               exact ⟨by first|rfl|(simp [errW_none,errW_some] <;> rfl)|(simp [*,errW_none,errW_some] <;> rfl),by repeat (first|(with_reducible first|exact HB.out|apply below_alloc|apply pw_below_drewN|apply below_drew1|refine below_set ?_ GE160.out|refine below_set ?_ GE172.out|refine below_set ?_ GE179.out)|exact HB.out)⟩
              ·rw [if_neg c70] at H
               have c70b0 : decide (512 < (t181.size : Int)) = false:=decide_eq_false c70
               have c70b1 : decide (512 < t181.size) = false:=decide_eq_false (by omega)
               clear c70
               simp only [Option.some.injEq,Prod.mk.injEq] at H
               obtain ⟨rfl,rfl,rfl,rfl,rfl,rfl⟩:=H
               try go_wp2
               have n0_:=Aside0.mk (blk_drew BK160.out)
               have n1_:=Aside0.mk (blk_drew BK172.out)
               have n2_:=Aside0.mk (below_drew1 HB.out)
               clear BK160
               clear BK172
               clear HB
               have BK160:=n0_
               have BK172:=n1_
               have HB:=n2_
               clear n0_ n1_ n2_
               refine start_ (n:=6) (S:=fun w' => w'.cell? ⟨gb172,0,none⟩ = some (.string t168) ∧ w'.cell? ⟨gb172,1,none⟩ = some (.string t169) ∧ w'.cell? ⟨gb172,2,none⟩ = some (.int .i64 t170)) (ds:=[]) #[false,false,false,false,false,false] (by kernel_rfl) rfl rfl ⟨(blk_cell BK172.out 0).trans rfl,(blk_cell BK172.out 1).trans rfl,(blk_cell BK172.out 2).trans rfl⟩ (fun hHeld => ?_)
               generalize wc.drew = w86 at BK160 BK172 HB hHeld ⊢
               refine pure_ (i:=1) (N:=some 71) (v:=?_) (a':=?_) #[false,true,false,false,false,false] rfl rfl (by kernel_rfl) (fun _ _ _ h => h) (Or.inl ⟨by rfl,?_⟩) ?_ ?_
               rotate_left
               ·intro w'
                go_simp
                with_reducible rfl
               rotate_left
               ·simp only [Act.put,List.setIfInBounds_toArray,List.set_cons_zero,List.set_cons_succ,i64_w,i32_w]
                rfl
               refine take_ (i:=0) (N:=some 70) (v:=?_) (a':=?_) #[true,true,false,false,false,false] rfl rfl (by kernel_rfl) (fun _ _ _ h => h) (Or.inl ⟨by rfl,?_⟩) hHeld ?_ ?_
               rotate_left
               ·rintro w' ⟨s0,s1,s2⟩
                go_simp
                with_reducible rfl
               rotate_left
               ·simp only [Act.put,List.setIfInBounds_toArray,List.set_cons_zero,List.set_cons_succ,i64_w,i32_w]
                rfl
               refine join_ (σ:=Nat) 1 #[true,true,true,true,true,false] (fun s_ => [(72,.string t178),(13,.pointer (some ⟨s_,0,none⟩)),(73,.agg #[.string t168,.string t169,.int .i64 t170,.string t178,.string (⟨#[]⟩ : ByteArray)])]) (fun s_ w' => (w'.cell? ⟨gb172,0,none⟩ = some (.string t168) ∧ w'.cell? ⟨gb172,1,none⟩ = some (.string t169) ∧ w'.cell? ⟨gb172,2,none⟩ = some (.int .i64 t170)) ∧ (w'.heap[gb160]? = some (.cells #[.string (⟨#[]⟩ : ByteArray),.string (⟨#[]⟩ : ByteArray),.int .i64 0,.string (⟨#[]⟩ : ByteArray),.string (⟨#[]⟩ : ByteArray)] 44 (0,0))) ∧ (w'.heap[gb172]? = some (.cells #[.string t168,.string t169,.int .i64 t170] 23 (0,0))) ∧ (w'.heap[s_]? = some (.cells #[.string (⟨#[]⟩ : ByteArray),.string (⟨#[]⟩ : ByteArray),.int .i64 0,.string (⟨#[]⟩ : ByteArray),.string (⟨#[]⟩ : ByteArray)] 44 (0,0))) ∧ (w.heap.size ≤ s_) ∧ (w.heap.size ≤ s_) ∧ (gb160 ≠ s_) ∧ (s_ ≠ gb160) ∧ (gb172 ≠ s_) ∧ (s_ ≠ gb172) ∧ (Below w.heap.size w w')) ?_ ?_
               rotate_left
               ·intro hCont
                refine two_ (i:=2) (j:=4) (Ni:=some 72) (Nj:=some 13) #[true,true,true,false,false,false] #[true,true,false,false,true,false] rfl rfl rfl rfl (by kernel_rfl) (by decide) (by decide) (fun K hK => ?_) (fun K hK => ?_)
                ·skip
                 refine goes_ Tryd.func36 (by kernel_rfl) rfl #[.string t173] (by rfl) rfl rfl (by (try simp only [List.map_toArray,List.map_cons,List.map_nil]);first|done|rfl|(simp only [List.length_drop,List.length_take];rfl)) ?_
                 with_reducible refine (target_Clean.calls kj21 t173 t178 _ A33.out).mono ?_
                 rintro e w87 ⟨rfl,hb⟩
                 refine ⟨_,rfl,?_⟩
                 have n0_:=Aside0.mk (blk_below (g:=gb160) (o:=.cells #[.string (⟨#[]⟩ : ByteArray),.string (⟨#[]⟩ : ByteArray),.int .i64 0,.string (⟨#[]⟩ : ByteArray),.string (⟨#[]⟩ : ByteArray)] 44 (0,0)) (by (with_reducible repeat (first|refine blk_drewN ?_ _|refine blk_drew ?_|refine blk_alloc ?_ _));exact BK160.out) hb)
                 have n1_:=Aside0.mk (blk_below (g:=gb172) (o:=.cells #[.string t168,.string t169,.int .i64 t170] 23 (0,0)) (by (with_reducible repeat (first|refine blk_drewN ?_ _|refine blk_drew ?_|refine blk_alloc ?_ _));exact BK172.out) hb)
                 have n2_:=Aside0.mk (below_step (by repeat (first|(with_reducible first|exact HB.out|apply below_alloc|apply pw_below_drewN|apply below_drew1|refine below_set ?_ GE160.out|refine below_set ?_ GE172.out)|exact HB.out)) hb)
                 clear BK160
                 clear BK172
                 clear HB
                 have BK160:=n0_
                 have BK172:=n1_
                 have HB:=n2_
                 clear n0_ n1_ n2_
                 (try clear hb)
                 (try clear hb2)
                 (try clear hk)
                 (try clear hi)
                 refine hK.out _ _ ⟨(blk_cell BK172.out 0).trans rfl,(blk_cell BK172.out 1).trans rfl,(blk_cell BK172.out 2).trans rfl⟩ (fun hHeld => ?_)
                 clear hK K
                 refine norm_ (a':=?_) ?_ ?_
                 rotate_left
                 ·show Act.put _ (some 72) _ = _
                  simp only [Act.put,List.setIfInBounds_toArray,List.set_cons_zero,List.set_cons_succ,i64_w,i32_w]
                  rfl
                 refine pure_ (i:=3) (N:=some 73) (v:=?_) (a':=?_) #[true,true,true,true,false,false] rfl rfl (by kernel_rfl) (fun _ _ _ h => h) (Or.inl ⟨by rfl,?_⟩) ?_ ?_
                 rotate_left
                 ·intro w'
                  go_simp
                  with_reducible rfl
                 rotate_left
                 ·simp only [Act.put,List.setIfInBounds_toArray,List.set_cons_zero,List.set_cons_succ,i64_w,i32_w]
                  rfl
                 refine one_ (i:=4) (N:=some 13) #[true,true,true,true,true,false] rfl rfl (by kernel_rfl) (by decide) (fun K hK => ?_)
                 refine box_step ?hg (N:=13) ?hd (cs:=#[.string (⟨#[]⟩ : ByteArray),.string (⟨#[]⟩ : ByteArray),.int .i64 0,.string (⟨#[]⟩ : ByteArray),.string (⟨#[]⟩ : ByteArray)]) (t:=44) ?hr ?_;(case hd => rfl);(case hg => rfl);(case hr => first|(go_simp;done)|(go_simp;rfl))
                 intro gb179 hg w88 hbox hb
                 have n0_:=Aside0.mk (blk_below (g:=gb160) (o:=.cells #[.string (⟨#[]⟩ : ByteArray),.string (⟨#[]⟩ : ByteArray),.int .i64 0,.string (⟨#[]⟩ : ByteArray),.string (⟨#[]⟩ : ByteArray)] 44 (0,0)) (by (with_reducible repeat (first|refine blk_drewN ?_ _|refine blk_drew ?_|refine blk_alloc ?_ _));exact BK160.out) hb)
                 have n1_:=Aside0.mk (blk_below (g:=gb172) (o:=.cells #[.string t168,.string t169,.int .i64 t170] 23 (0,0)) (by (with_reducible repeat (first|refine blk_drewN ?_ _|refine blk_drew ?_|refine blk_alloc ?_ _));exact BK172.out) hb)
                 have n2_:=Aside0.mk (below_step (by repeat (first|(with_reducible first|exact HB.out|apply below_alloc|apply pw_below_drewN|apply below_drew1|refine below_set ?_ GE160.out|refine below_set ?_ GE172.out)|exact HB.out)) hb)
                 have n3_:=Aside0.mk (hbox)
                 have n4_:=Aside0.mk ((by rw [hg];exact (below_size (by repeat (first|(with_reducible first|exact HB.out|apply below_alloc|apply pw_below_drewN|apply below_drew1|refine below_set ?_ GE160.out|refine below_set ?_ GE172.out)|exact HB.out))) : w.heap.size ≤ gb179))
                 have n5_:=Aside0.mk ((by rw [hg];exact (below_size (by repeat (first|(with_reducible first|exact HB.out|apply below_alloc|apply pw_below_drewN|apply below_drew1|refine below_set ?_ GE160.out|refine below_set ?_ GE172.out)|exact HB.out))) : w.heap.size ≤ gb179))
                 have n6_:=Aside0.mk ((by rw [hg];exact Nat.ne_of_lt (blk_lt (g:=gb160) (o:=.cells #[.string (⟨#[]⟩ : ByteArray),.string (⟨#[]⟩ : ByteArray),.int .i64 0,.string (⟨#[]⟩ : ByteArray),.string (⟨#[]⟩ : ByteArray)] 44 (0,0)) (by (with_reducible repeat (first|refine blk_drewN ?_ _|refine blk_drew ?_|refine blk_alloc ?_ _));exact BK160.out)) : gb160 ≠ gb179))
                 have n7_:=Aside0.mk ((by rw [hg];exact Nat.ne_of_gt (blk_lt (g:=gb160) (o:=.cells #[.string (⟨#[]⟩ : ByteArray),.string (⟨#[]⟩ : ByteArray),.int .i64 0,.string (⟨#[]⟩ : ByteArray),.string (⟨#[]⟩ : ByteArray)] 44 (0,0)) (by (with_reducible repeat (first|refine blk_drewN ?_ _|refine blk_drew ?_|refine blk_alloc ?_ _));exact BK160.out)) : gb179 ≠ gb160))
                 have n8_:=Aside0.mk ((by rw [hg];exact Nat.ne_of_lt (blk_lt (g:=gb172) (o:=.cells #[.string t168,.string t169,.int .i64 t170] 23 (0,0)) (by (with_reducible repeat (first|refine blk_drewN ?_ _|refine blk_drew ?_|refine blk_alloc ?_ _));exact BK172.out)) : gb172 ≠ gb179))
                 have n9_:=Aside0.mk ((by rw [hg];exact Nat.ne_of_gt (blk_lt (g:=gb172) (o:=.cells #[.string t168,.string t169,.int .i64 t170] 23 (0,0)) (by (with_reducible repeat (first|refine blk_drewN ?_ _|refine blk_drew ?_|refine blk_alloc ?_ _));exact BK172.out)) : gb179 ≠ gb172))
                 clear BK160
                 clear BK172
                 clear HB
                 have BK160:=n0_
                 have BK172:=n1_
                 have HB:=n2_
                 have BK179:=n3_
                 have GW179:=n4_
                 have GE179:=n5_
                 have NB160_179:=n6_
                 have NB179_160:=n7_
                 have NB172_179:=n8_
                 have NB179_172:=n9_
                 clear n0_ n1_ n2_ n3_ n4_ n5_ n6_ n7_ n8_ n9_
                 clear hb hbox hg
                 refine hK.out _ _ ⟨(blk_cell BK172.out 0).trans rfl,(blk_cell BK172.out 1).trans rfl,(blk_cell BK172.out 2).trans rfl⟩ (fun hHeld => ?_)
                 clear hK K
                 refine norm_ (a':=?_) ?_ ?_
                 rotate_left
                 ·show Act.put _ (some 13) _ = _
                  simp only [Act.put,List.setIfInBounds_toArray,List.set_cons_zero,List.set_cons_succ,i64_w,i32_w]
                  rfl
                 exact norm_ (by simp only [putAll,Act.put,List.setIfInBounds_toArray,List.set_cons_zero,List.set_cons_succ]) (hCont (gb179) _ ⟨hHeld,(by (with_reducible repeat (first|refine blk_drewN ?_ _|refine blk_drew ?_|refine blk_alloc ?_ _));exact BK160.out),(by (with_reducible repeat (first|refine blk_drewN ?_ _|refine blk_drew ?_|refine blk_alloc ?_ _));exact BK172.out),(by (with_reducible repeat (first|refine blk_drewN ?_ _|refine blk_drew ?_|refine blk_alloc ?_ _));exact BK179.out),GW179.out,GE179.out,NB160_179.out,NB179_160.out,NB172_179.out,NB179_172.out,(by repeat (first|(with_reducible first|exact HB.out|apply below_alloc|apply pw_below_drewN|apply below_drew1|refine below_set ?_ GE160.out|refine below_set ?_ GE172.out|refine below_set ?_ GE179.out)|exact HB.out))⟩)
                ·skip
                 refine box_step ?hg (N:=13) ?hd (cs:=#[.string (⟨#[]⟩ : ByteArray),.string (⟨#[]⟩ : ByteArray),.int .i64 0,.string (⟨#[]⟩ : ByteArray),.string (⟨#[]⟩ : ByteArray)]) (t:=44) ?hr ?_;(case hd => rfl);(case hg => rfl);(case hr => first|(go_simp;done)|(go_simp;rfl))
                 intro gb179 hg w87 hbox hb
                 have n0_:=Aside0.mk (blk_below (g:=gb160) (o:=.cells #[.string (⟨#[]⟩ : ByteArray),.string (⟨#[]⟩ : ByteArray),.int .i64 0,.string (⟨#[]⟩ : ByteArray),.string (⟨#[]⟩ : ByteArray)] 44 (0,0)) (by (with_reducible repeat (first|refine blk_drewN ?_ _|refine blk_drew ?_|refine blk_alloc ?_ _));exact BK160.out) hb)
                 have n1_:=Aside0.mk (blk_below (g:=gb172) (o:=.cells #[.string t168,.string t169,.int .i64 t170] 23 (0,0)) (by (with_reducible repeat (first|refine blk_drewN ?_ _|refine blk_drew ?_|refine blk_alloc ?_ _));exact BK172.out) hb)
                 have n2_:=Aside0.mk (below_step (by repeat (first|(with_reducible first|exact HB.out|apply below_alloc|apply pw_below_drewN|apply below_drew1|refine below_set ?_ GE160.out|refine below_set ?_ GE172.out)|exact HB.out)) hb)
                 have n3_:=Aside0.mk (hbox)
                 have n4_:=Aside0.mk ((by rw [hg];exact (below_size (by repeat (first|(with_reducible first|exact HB.out|apply below_alloc|apply pw_below_drewN|apply below_drew1|refine below_set ?_ GE160.out|refine below_set ?_ GE172.out)|exact HB.out))) : w.heap.size ≤ gb179))
                 have n5_:=Aside0.mk ((by rw [hg];exact (below_size (by repeat (first|(with_reducible first|exact HB.out|apply below_alloc|apply pw_below_drewN|apply below_drew1|refine below_set ?_ GE160.out|refine below_set ?_ GE172.out)|exact HB.out))) : w.heap.size ≤ gb179))
                 have n6_:=Aside0.mk ((by rw [hg];exact Nat.ne_of_lt (blk_lt (g:=gb160) (o:=.cells #[.string (⟨#[]⟩ : ByteArray),.string (⟨#[]⟩ : ByteArray),.int .i64 0,.string (⟨#[]⟩ : ByteArray),.string (⟨#[]⟩ : ByteArray)] 44 (0,0)) (by (with_reducible repeat (first|refine blk_drewN ?_ _|refine blk_drew ?_|refine blk_alloc ?_ _));exact BK160.out)) : gb160 ≠ gb179))
                 have n7_:=Aside0.mk ((by rw [hg];exact Nat.ne_of_gt (blk_lt (g:=gb160) (o:=.cells #[.string (⟨#[]⟩ : ByteArray),.string (⟨#[]⟩ : ByteArray),.int .i64 0,.string (⟨#[]⟩ : ByteArray),.string (⟨#[]⟩ : ByteArray)] 44 (0,0)) (by (with_reducible repeat (first|refine blk_drewN ?_ _|refine blk_drew ?_|refine blk_alloc ?_ _));exact BK160.out)) : gb179 ≠ gb160))
                 have n8_:=Aside0.mk ((by rw [hg];exact Nat.ne_of_lt (blk_lt (g:=gb172) (o:=.cells #[.string t168,.string t169,.int .i64 t170] 23 (0,0)) (by (with_reducible repeat (first|refine blk_drewN ?_ _|refine blk_drew ?_|refine blk_alloc ?_ _));exact BK172.out)) : gb172 ≠ gb179))
                 have n9_:=Aside0.mk ((by rw [hg];exact Nat.ne_of_gt (blk_lt (g:=gb172) (o:=.cells #[.string t168,.string t169,.int .i64 t170] 23 (0,0)) (by (with_reducible repeat (first|refine blk_drewN ?_ _|refine blk_drew ?_|refine blk_alloc ?_ _));exact BK172.out)) : gb179 ≠ gb172))
                 clear BK160
                 clear BK172
                 clear HB
                 have BK160:=n0_
                 have BK172:=n1_
                 have HB:=n2_
                 have BK179:=n3_
                 have GW179:=n4_
                 have GE179:=n5_
                 have NB160_179:=n6_
                 have NB179_160:=n7_
                 have NB172_179:=n8_
                 have NB179_172:=n9_
                 clear n0_ n1_ n2_ n3_ n4_ n5_ n6_ n7_ n8_ n9_
                 clear hb hbox hg
                 refine hK.out _ _ ⟨(blk_cell BK172.out 0).trans rfl,(blk_cell BK172.out 1).trans rfl,(blk_cell BK172.out 2).trans rfl⟩ (fun hHeld => ?_)
                 clear hK K
                 refine norm_ (a':=?_) ?_ ?_
                 rotate_left
                 ·show Act.put _ (some 13) _ = _
                  simp only [Act.put,List.setIfInBounds_toArray,List.set_cons_zero,List.set_cons_succ,i64_w,i32_w]
                  rfl
                 refine one_ (i:=2) (N:=some 72) #[true,true,true,false,true,false] rfl rfl (by kernel_rfl) (by decide) (fun K hK => ?_)
                 refine goes_ Tryd.func36 (by kernel_rfl) rfl #[.string t173] (by rfl) rfl rfl (by (try simp only [List.map_toArray,List.map_cons,List.map_nil]);first|done|rfl|(simp only [List.length_drop,List.length_take];rfl)) ?_
                 with_reducible refine (target_Clean.calls kj21 t173 t178 _ A33.out).mono ?_
                 rintro e w88 ⟨rfl,hb⟩
                 refine ⟨_,rfl,?_⟩
                 have n0_:=Aside0.mk (blk_below (g:=gb160) (o:=.cells #[.string (⟨#[]⟩ : ByteArray),.string (⟨#[]⟩ : ByteArray),.int .i64 0,.string (⟨#[]⟩ : ByteArray),.string (⟨#[]⟩ : ByteArray)] 44 (0,0)) (by (with_reducible repeat (first|refine blk_drewN ?_ _|refine blk_drew ?_|refine blk_alloc ?_ _));exact BK160.out) hb)
                 have n1_:=Aside0.mk (blk_below (g:=gb172) (o:=.cells #[.string t168,.string t169,.int .i64 t170] 23 (0,0)) (by (with_reducible repeat (first|refine blk_drewN ?_ _|refine blk_drew ?_|refine blk_alloc ?_ _));exact BK172.out) hb)
                 have n2_:=Aside0.mk (blk_below (g:=gb179) (o:=.cells #[.string (⟨#[]⟩ : ByteArray),.string (⟨#[]⟩ : ByteArray),.int .i64 0,.string (⟨#[]⟩ : ByteArray),.string (⟨#[]⟩ : ByteArray)] 44 (0,0)) (by (with_reducible repeat (first|refine blk_drewN ?_ _|refine blk_drew ?_|refine blk_alloc ?_ _));exact BK179.out) hb)
                 have n3_:=Aside0.mk (below_step (by repeat (first|(with_reducible first|exact HB.out|apply below_alloc|apply pw_below_drewN|apply below_drew1|refine below_set ?_ GE160.out|refine below_set ?_ GE172.out|refine below_set ?_ GE179.out)|exact HB.out)) hb)
                 clear BK160
                 clear BK172
                 clear BK179
                 clear HB
                 have BK160:=n0_
                 have BK172:=n1_
                 have BK179:=n2_
                 have HB:=n3_
                 clear n0_ n1_ n2_ n3_
                 (try clear hb)
                 (try clear hb2)
                 (try clear hk)
                 (try clear hi)
                 refine hK.out _ _ ⟨(blk_cell BK172.out 0).trans rfl,(blk_cell BK172.out 1).trans rfl,(blk_cell BK172.out 2).trans rfl⟩ (fun hHeld => ?_)
                 clear hK K
                 refine norm_ (a':=?_) ?_ ?_
                 rotate_left
                 ·show Act.put _ (some 72) _ = _
                  simp only [Act.put,List.setIfInBounds_toArray,List.set_cons_zero,List.set_cons_succ,i64_w,i32_w]
                  rfl
                 refine pure_ (i:=3) (N:=some 73) (v:=?_) (a':=?_) #[true,true,true,true,true,false] rfl rfl (by kernel_rfl) (fun _ _ _ h => h) (Or.inl ⟨by rfl,?_⟩) ?_ ?_
                 rotate_left
                 ·intro w'
                  go_simp
                  with_reducible rfl
                 rotate_left
                 ·simp only [Act.put,List.setIfInBounds_toArray,List.set_cons_zero,List.set_cons_succ,i64_w,i32_w]
                  rfl
                 exact norm_ (by simp only [putAll,Act.put,List.setIfInBounds_toArray,List.set_cons_zero,List.set_cons_succ]) (hCont (gb179) _ ⟨hHeld,(by (with_reducible repeat (first|refine blk_drewN ?_ _|refine blk_drew ?_|refine blk_alloc ?_ _));exact BK160.out),(by (with_reducible repeat (first|refine blk_drewN ?_ _|refine blk_drew ?_|refine blk_alloc ?_ _));exact BK172.out),(by (with_reducible repeat (first|refine blk_drewN ?_ _|refine blk_drew ?_|refine blk_alloc ?_ _));exact BK179.out),GW179.out,GE179.out,NB160_179.out,NB179_160.out,NB172_179.out,NB179_172.out,(by repeat (first|(with_reducible first|exact HB.out|apply below_alloc|apply pw_below_drewN|apply below_drew1|refine below_set ?_ GE160.out|refine below_set ?_ GE172.out|refine below_set ?_ GE179.out)|exact HB.out))⟩)
               rintro gb179 w89 ⟨hS_,h0_,h1_,h2_,h3_,h4_,h5_,h6_,h7_,h8_,h9_⟩
               have n0_ : Aside0 (w89.heap[gb160]? = some (.cells #[.string (⟨#[]⟩ : ByteArray),.string (⟨#[]⟩ : ByteArray),.int .i64 0,.string (⟨#[]⟩ : ByteArray),.string (⟨#[]⟩ : ByteArray)] 44 (0,0))):=⟨h0_⟩
               have n1_ : Aside0 (w89.heap[gb172]? = some (.cells #[.string t168,.string t169,.int .i64 t170] 23 (0,0))):=⟨h1_⟩
               have n2_ : Aside0 (w89.heap[gb179]? = some (.cells #[.string (⟨#[]⟩ : ByteArray),.string (⟨#[]⟩ : ByteArray),.int .i64 0,.string (⟨#[]⟩ : ByteArray),.string (⟨#[]⟩ : ByteArray)] 44 (0,0))):=⟨h2_⟩
               have n3_ : Aside0 (w.heap.size ≤ gb179):=⟨h3_⟩
               have n4_ : Aside0 (w.heap.size ≤ gb179):=⟨h4_⟩
               have n5_ : Aside0 (gb160 ≠ gb179):=⟨h5_⟩
               have n6_ : Aside0 (gb179 ≠ gb160):=⟨h6_⟩
               have n7_ : Aside0 (gb172 ≠ gb179):=⟨h7_⟩
               have n8_ : Aside0 (gb179 ≠ gb172):=⟨h8_⟩
               have n9_ : Aside0 (Below w.heap.size w w89):=⟨h9_⟩
               clear BK160
               clear BK172
               clear HB
               clear h0_ h1_ h2_ h3_ h4_ h5_ h6_ h7_ h8_ h9_
               have BK160:=n0_
               have BK172:=n1_
               have BK179:=n2_
               have GW179:=n3_
               have GE179:=n4_
               have NB160_179:=n5_
               have NB179_160:=n6_
               have NB172_179:=n7_
               have NB179_172:=n8_
               have HB:=n9_
               clear n0_ n1_ n2_ n3_ n4_ n5_ n6_ n7_ n8_ n9_
               have hHeld : w89.cell? ⟨gb172,0,none⟩ = some (.string t168) ∧ w89.cell? ⟨gb172,1,none⟩ = some (.string t169) ∧ w89.cell? ⟨gb172,2,none⟩ = some (.int .i64 t170):=hS_
               refine norm_ (a':=?_) ?_ ?_
               rotate_left
               ·simp only [putAll,Act.put,List.setIfInBounds_toArray,List.set_cons_zero,List.set_cons_succ]
                rfl
               refine one_ (i:=5) (N:=none) #[true,true,true,true,true,true] rfl rfl (by kernel_rfl) (by decide) (fun K hK => ?_)
               have hs90 : w89.cell? ⟨gb179,0,none⟩ = some (.string (⟨#[]⟩ : ByteArray)):=(blk_cell BK179.out 0).trans rfl
               have hfs90:=blk_frozen BK179.out 0
               have hns90_0:=NB160_179.out
               have hns90_1:=NB172_179.out
               have hms90_0:=NB179_160.out
               have hms90_1:=NB179_172.out
               have hs91 : w89.cell? ⟨gb179,1,none⟩ = some (.string (⟨#[]⟩ : ByteArray)):=(blk_cell BK179.out 1).trans rfl
               have hfs91:=blk_frozen BK179.out 1
               have hns91_0:=NB160_179.out
               have hns91_1:=NB172_179.out
               have hms91_0:=NB179_160.out
               have hms91_1:=NB179_172.out
               have hs92 : w89.cell? ⟨gb179,2,none⟩ = some (.int .i64 0):=(blk_cell BK179.out 2).trans rfl
               have hfs92:=blk_frozen BK179.out 2
               have hns92_0:=NB160_179.out
               have hns92_1:=NB172_179.out
               have hms92_0:=NB179_160.out
               have hms92_1:=NB179_172.out
               have hs93 : w89.cell? ⟨gb179,3,none⟩ = some (.string (⟨#[]⟩ : ByteArray)):=(blk_cell BK179.out 3).trans rfl
               have hfs93:=blk_frozen BK179.out 3
               have hns93_0:=NB160_179.out
               have hns93_1:=NB172_179.out
               have hms93_0:=NB179_160.out
               have hms93_1:=NB179_172.out
               have hs94 : w89.cell? ⟨gb179,4,none⟩ = some (.string (⟨#[]⟩ : ByteArray)):=(blk_cell BK179.out 4).trans rfl
               have hfs94:=blk_frozen BK179.out 4
               have hns94_0:=NB160_179.out
               have hns94_1:=NB172_179.out
               have hms94_0:=NB179_160.out
               have hms94_1:=NB179_172.out
               refine skip_ (w1:=?_) (by rfl) rfl ?_ ?_
               rotate_left
               ·go_simp
                rfl
               refine hK.out _ _ ⟨((cell_far (p:=⟨gb179,_,none⟩) NB172_179.out _).trans (((cell_far (p:=⟨gb179,_,none⟩) NB172_179.out _).trans (((cell_far (p:=⟨gb179,_,none⟩) NB172_179.out _).trans (((cell_far (p:=⟨gb179,_,none⟩) NB172_179.out _).trans (((cell_far (p:=⟨gb179,_,none⟩) NB172_179.out _).trans (hHeld.1)))))))))),((cell_far (p:=⟨gb179,_,none⟩) NB172_179.out _).trans (((cell_far (p:=⟨gb179,_,none⟩) NB172_179.out _).trans (((cell_far (p:=⟨gb179,_,none⟩) NB172_179.out _).trans (((cell_far (p:=⟨gb179,_,none⟩) NB172_179.out _).trans (((cell_far (p:=⟨gb179,_,none⟩) NB172_179.out _).trans (hHeld.2.1)))))))))),((cell_far (p:=⟨gb179,_,none⟩) NB172_179.out _).trans (((cell_far (p:=⟨gb179,_,none⟩) NB172_179.out _).trans (((cell_far (p:=⟨gb179,_,none⟩) NB172_179.out _).trans (((cell_far (p:=⟨gb179,_,none⟩) NB172_179.out _).trans (((cell_far (p:=⟨gb179,_,none⟩) NB172_179.out _).trans (hHeld.2.2))))))))))⟩ (fun hHeld => ?_)
               clear hK K
               refine done_ (by kernel_rfl) ?_
               have hnb95:=NB179_160.out
               have hnc95:=NB160_179.out
               have hnb96:=NB179_172.out
               have hnc96:=NB172_179.out
               have hcz97_0 : w89.cell? ⟨gb179,0,none⟩ = some (.string (⟨#[]⟩ : ByteArray)):=(blk_cell BK179.out 0).trans rfl
               have hcz97_1 : w89.cell? ⟨gb179,1,none⟩ = some (.string (⟨#[]⟩ : ByteArray)):=(blk_cell BK179.out 1).trans rfl
               have hcz97_2 : w89.cell? ⟨gb179,2,none⟩ = some (.int .i64 0):=(blk_cell BK179.out 2).trans rfl
               have hcz97_3 : w89.cell? ⟨gb179,3,none⟩ = some (.string (⟨#[]⟩ : ByteArray)):=(blk_cell BK179.out 3).trans rfl
               have hcz97_4 : w89.cell? ⟨gb179,4,none⟩ = some (.string (⟨#[]⟩ : ByteArray)):=(blk_cell BK179.out 4).trans rfl
               have hfz97_0:=blk_frozen BK179.out 0
               have hfz97_1:=blk_frozen BK179.out 1
               have hfz97_2:=blk_frozen BK179.out 2
               have hfz97_3:=blk_frozen BK179.out 3
               have hfz97_4:=blk_frozen BK179.out 4
               have z160_ : Aside0 ((((((w89.setCell ⟨gb179,0,none⟩ (.string t168)).setCell ⟨gb179,1,none⟩ (.string t169)).setCell ⟨gb179,2,none⟩ (.int .i64 t170)).setCell ⟨gb179,3,none⟩ (.string t178)).setCell ⟨gb179,4,none⟩ (.string (⟨#[]⟩ : ByteArray))).heap[gb160]? = some (.cells #[.string (⟨#[]⟩ : ByteArray),.string (⟨#[]⟩ : ByteArray),.int .i64 0,.string (⟨#[]⟩ : ByteArray),.string (⟨#[]⟩ : ByteArray)] 44 (0,0))):=⟨by refine blk_far ?_ NB160_179.out _;refine blk_far ?_ NB160_179.out _;refine blk_far ?_ NB160_179.out _;refine blk_far ?_ NB160_179.out _;refine blk_far ?_ NB160_179.out _;exact BK160.out⟩
               have z172_ : Aside0 ((((((w89.setCell ⟨gb179,0,none⟩ (.string t168)).setCell ⟨gb179,1,none⟩ (.string t169)).setCell ⟨gb179,2,none⟩ (.int .i64 t170)).setCell ⟨gb179,3,none⟩ (.string t178)).setCell ⟨gb179,4,none⟩ (.string (⟨#[]⟩ : ByteArray))).heap[gb172]? = some (.cells #[.string t168,.string t169,.int .i64 t170] 23 (0,0))):=⟨by refine blk_far ?_ NB172_179.out _;refine blk_far ?_ NB172_179.out _;refine blk_far ?_ NB172_179.out _;refine blk_far ?_ NB172_179.out _;refine blk_far ?_ NB172_179.out _;exact BK172.out⟩
               have z179_ : Aside0 ((((((w89.setCell ⟨gb179,0,none⟩ (.string t168)).setCell ⟨gb179,1,none⟩ (.string t169)).setCell ⟨gb179,2,none⟩ (.int .i64 t170)).setCell ⟨gb179,3,none⟩ (.string t178)).setCell ⟨gb179,4,none⟩ (.string (⟨#[]⟩ : ByteArray))).heap[gb179]? = some (.cells #[.string t168,.string t169,.int .i64 t170,.string t178,.string (⟨#[]⟩ : ByteArray)] 44 (0,0))):=⟨by refine blk_put (cs:=#[.string t168,.string t169,.int .i64 t170,.string t178,.string (⟨#[]⟩ : ByteArray)]) ?_ 4 _ rfl;refine blk_put (cs:=#[.string t168,.string t169,.int .i64 t170,.string (⟨#[]⟩ : ByteArray),.string (⟨#[]⟩ : ByteArray)]) ?_ 3 _ rfl;refine blk_put (cs:=#[.string t168,.string t169,.int .i64 0,.string (⟨#[]⟩ : ByteArray),.string (⟨#[]⟩ : ByteArray)]) ?_ 2 _ rfl;refine blk_put (cs:=#[.string t168,.string (⟨#[]⟩ : ByteArray),.int .i64 0,.string (⟨#[]⟩ : ByteArray),.string (⟨#[]⟩ : ByteArray)]) ?_ 1 _ rfl;refine blk_put (cs:=#[.string (⟨#[]⟩ : ByteArray),.string (⟨#[]⟩ : ByteArray),.int .i64 0,.string (⟨#[]⟩ : ByteArray),.string (⟨#[]⟩ : ByteArray)]) ?_ 0 _ rfl;exact BK179.out⟩
               have zB_ : Aside0 (Below w.heap.size w (((((w89.setCell ⟨gb179,0,none⟩ (.string t168)).setCell ⟨gb179,1,none⟩ (.string t169)).setCell ⟨gb179,2,none⟩ (.int .i64 t170)).setCell ⟨gb179,3,none⟩ (.string t178)).setCell ⟨gb179,4,none⟩ (.string (⟨#[]⟩ : ByteArray)))):=⟨by refine below_set ?_ GE179.out;refine below_set ?_ GE179.out;refine below_set ?_ GE179.out;refine below_set ?_ GE179.out;refine below_set ?_ GE179.out;exact HB.out⟩
               clear BK160 BK172 BK179 HB
               try clear hHeld
               try clear hfz97_4
               try clear hfz97_3
               try clear hfz97_2
               try clear hfz97_1
               try clear hfz97_0
               try clear hcz97_4
               try clear hcz97_3
               try clear hcz97_2
               try clear hcz97_1
               try clear hcz97_0
               try clear hnc96
               try clear hnb96
               try clear hnc95
               try clear hnb95
               try clear hms94_1
               try clear hms94_0
               try clear hns94_1
               try clear hns94_0
               try clear hfs94
               try clear hs94
               try clear hms93_1
               try clear hms93_0
               try clear hns93_1
               try clear hns93_0
               try clear hfs93
               try clear hs93
               try clear hms92_1
               try clear hms92_0
               try clear hns92_1
               try clear hns92_0
               try clear hfs92
               try clear hs92
               try clear hms91_1
               try clear hms91_0
               try clear hns91_1
               try clear hns91_0
               try clear hfs91
               try clear hs91
               try clear hms90_1
               try clear hms90_0
               try clear hns90_1
               try clear hns90_0
               try clear hfs90
               try clear hs90
               have BK160:=z160_
               have BK172:=z172_
               have BK179:=z179_
               have HB:=zB_
               clear z160_ z172_ z179_ zB_
               generalize (((((w89.setCell ⟨gb179,0,none⟩ (.string t168)).setCell ⟨gb179,1,none⟩ (.string t169)).setCell ⟨gb179,2,none⟩ (.int .i64 t170)).setCell ⟨gb179,3,none⟩ (.string t178)).setCell ⟨gb179,4,none⟩ (.string (⟨#[]⟩ : ByteArray))) = wz4 at BK160 BK172 BK179 HB ⊢
               have hzz160_0 : wz4.cell? ⟨gb160,0,none⟩ = some (.string (⟨#[]⟩ : ByteArray)):=(blk_cell BK160.out 0).trans rfl
               have hzz160_1 : wz4.cell? ⟨gb160,1,none⟩ = some (.string (⟨#[]⟩ : ByteArray)):=(blk_cell BK160.out 1).trans rfl
               have hzz160_2 : wz4.cell? ⟨gb160,2,none⟩ = some (.int .i64 0):=(blk_cell BK160.out 2).trans rfl
               have hzz160_3 : wz4.cell? ⟨gb160,3,none⟩ = some (.string (⟨#[]⟩ : ByteArray)):=(blk_cell BK160.out 3).trans rfl
               have hzz160_4 : wz4.cell? ⟨gb160,4,none⟩ = some (.string (⟨#[]⟩ : ByteArray)):=(blk_cell BK160.out 4).trans rfl
               have hzf160_0:=blk_frozen BK160.out 0
               have hzf160_1:=blk_frozen BK160.out 1
               have hzf160_2:=blk_frozen BK160.out 2
               have hzf160_3:=blk_frozen BK160.out 3
               have hzf160_4:=blk_frozen BK160.out 4
               have hzz172_0 : wz4.cell? ⟨gb172,0,none⟩ = some (.string t168):=(blk_cell BK172.out 0).trans rfl
               have hzz172_1 : wz4.cell? ⟨gb172,1,none⟩ = some (.string t169):=(blk_cell BK172.out 1).trans rfl
               have hzz172_2 : wz4.cell? ⟨gb172,2,none⟩ = some (.int .i64 t170):=(blk_cell BK172.out 2).trans rfl
               have hzf172_0:=blk_frozen BK172.out 0
               have hzf172_1:=blk_frozen BK172.out 1
               have hzf172_2:=blk_frozen BK172.out 2
               have hzz179_0 : wz4.cell? ⟨gb179,0,none⟩ = some (.string t168):=(blk_cell BK179.out 0).trans rfl
               have hzz179_1 : wz4.cell? ⟨gb179,1,none⟩ = some (.string t169):=(blk_cell BK179.out 1).trans rfl
               have hzz179_2 : wz4.cell? ⟨gb179,2,none⟩ = some (.int .i64 t170):=(blk_cell BK179.out 2).trans rfl
               have hzz179_3 : wz4.cell? ⟨gb179,3,none⟩ = some (.string t178):=(blk_cell BK179.out 3).trans rfl
               have hzz179_4 : wz4.cell? ⟨gb179,4,none⟩ = some (.string (⟨#[]⟩ : ByteArray)):=(blk_cell BK179.out 4).trans rfl
               have hzf179_0:=blk_frozen BK179.out 0
               have hzf179_1:=blk_frozen BK179.out 1
               have hzf179_2:=blk_frozen BK179.out 2
               have hzf179_3:=blk_frozen BK179.out 3
               have hzf179_4:=blk_frozen BK179.out 4
               have hzn160:=NB160_179.out
               have hzm160:=NB179_160.out
               have hzn172:=NB172_179.out
               have hzm172:=NB179_172.out
               try go_wp2_with (first|((with_reducible refine gate_callee (f:=54) rfl ?_);refine goesL_ (some 79) rfl rfl Tryd.func54 (by kernel_rfl) rfl #[.agg #[.string t168,.string t169,.int .i64 t170,.string t178,.string (⟨#[]⟩ : ByteArray)]] rfl (by (try simp only [List.map_toArray,List.map_cons,List.map_nil]);first|done|rfl|(simp only [List.length_drop,List.length_take];rfl)) ?_;(with_reducible refine (target_show.calls kj21 t168 t169 t170 t178 (⟨#[]⟩ : ByteArray) t181 _ ?side1 A69.out).mono ?_);(case side1 => exact ⟨by repeat (first|(with_reducible exact hM_.out)|(with_reducible exact LaidW.below hM_.out HB.out)|(with_reducible refine LaidW.alloc ?_ _)|(with_reducible refine LaidW.drewN ?_ _)|(with_reducible refine LaidW.drew ?_)|exact LaidW.below hM_.out (by repeat (first|(with_reducible first|exact HB.out|apply below_alloc|apply pw_below_drewN|apply below_drew1|refine below_set ?_ GE160.out|refine below_set ?_ GE172.out|refine below_set ?_ GE179.out)|exact HB.out)))⟩);rintro e w98 ⟨rfl,hb⟩;refine ⟨_,rfl,?_⟩;have n0_:=Aside0.mk (blk_below (g:=gb160) (o:=.cells #[.string (⟨#[]⟩ : ByteArray),.string (⟨#[]⟩ : ByteArray),.int .i64 0,.string (⟨#[]⟩ : ByteArray),.string (⟨#[]⟩ : ByteArray)] 44 (0,0)) (by (with_reducible repeat (first|refine blk_drewN ?_ _|refine blk_drew ?_|refine blk_alloc ?_ _));exact BK160.out) hb);have n1_:=Aside0.mk (blk_below (g:=gb172) (o:=.cells #[.string t168,.string t169,.int .i64 t170] 23 (0,0)) (by (with_reducible repeat (first|refine blk_drewN ?_ _|refine blk_drew ?_|refine blk_alloc ?_ _));exact BK172.out) hb);have n2_:=Aside0.mk (blk_below (g:=gb179) (o:=.cells #[.string t168,.string t169,.int .i64 t170,.string t178,.string (⟨#[]⟩ : ByteArray)] 44 (0,0)) (by (with_reducible repeat (first|refine blk_drewN ?_ _|refine blk_drew ?_|refine blk_alloc ?_ _));exact BK179.out) hb);have n3_:=Aside0.mk (below_step (by repeat (first|(with_reducible first|exact HB.out|apply below_alloc|apply pw_below_drewN|apply below_drew1|refine below_set ?_ GE160.out|refine below_set ?_ GE172.out|refine below_set ?_ GE179.out)|exact HB.out)) hb);clear BK160;clear BK172;clear BK179;clear HB;have BK160:=n0_;have BK172:=n1_;have BK179:=n2_;have HB:=n3_;clear n0_ n1_ n2_ n3_;(try clear hb);(try clear hb2);(try clear hk);(try clear hi);have hcz99_0 : w98.cell? ⟨gb179,0,none⟩ = some (.string t168):=(blk_cell BK179.out 0).trans rfl;have hcz99_1 : w98.cell? ⟨gb179,1,none⟩ = some (.string t169):=(blk_cell BK179.out 1).trans rfl;have hcz99_2 : w98.cell? ⟨gb179,2,none⟩ = some (.int .i64 t170):=(blk_cell BK179.out 2).trans rfl;have hcz99_3 : w98.cell? ⟨gb179,3,none⟩ = some (.string t178):=(blk_cell BK179.out 3).trans rfl;have hcz99_4 : w98.cell? ⟨gb179,4,none⟩ = some (.string (⟨#[]⟩ : ByteArray)):=(blk_cell BK179.out 4).trans rfl;have hfz99_0:=blk_frozen BK179.out 0;have hfz99_1:=blk_frozen BK179.out 1;have hfz99_2:=blk_frozen BK179.out 2;have hfz99_3:=blk_frozen BK179.out 3;have hfz99_4:=blk_frozen BK179.out 4;have hnb100:=NB160_172.out;have hnc100:=NB172_160.out;have hcz101_0 : w98.cell? ⟨gb160,0,none⟩ = some (.string (⟨#[]⟩ : ByteArray)):=(blk_cell BK160.out 0).trans rfl;have hcz101_1 : w98.cell? ⟨gb160,1,none⟩ = some (.string (⟨#[]⟩ : ByteArray)):=(blk_cell BK160.out 1).trans rfl;have hcz101_2 : w98.cell? ⟨gb160,2,none⟩ = some (.int .i64 0):=(blk_cell BK160.out 2).trans rfl;have hcz101_3 : w98.cell? ⟨gb160,3,none⟩ = some (.string (⟨#[]⟩ : ByteArray)):=(blk_cell BK160.out 3).trans rfl;have hcz101_4 : w98.cell? ⟨gb160,4,none⟩ = some (.string (⟨#[]⟩ : ByteArray)):=(blk_cell BK160.out 4).trans rfl;have hfz101_0:=blk_frozen BK160.out 0;have hfz101_1:=blk_frozen BK160.out 1;have hfz101_2:=blk_frozen BK160.out 2;have hfz101_3:=blk_frozen BK160.out 3;have hfz101_4:=blk_frozen BK160.out 4))
               refine bodyPost_ret (results_ct rfl _ _ gb160 44 #[.string t168,.string t169,.int .i64 t170,.string t178,.string (⟨#[]⟩ : ByteArray)] (0,0) _ rfl (by (with_reducible repeat (first|refine blk_drewN ?_ _|refine blk_drew ?_|refine blk_alloc ?_ _));refine blk_put (cs:=#[.string t168,.string t169,.int .i64 t170,.string t178,.string (⟨#[]⟩ : ByteArray)]) ?_ 4 _ rfl;(with_reducible repeat (first|refine blk_drewN ?_ _|refine blk_drew ?_|refine blk_alloc ?_ _));refine blk_put (cs:=#[.string t168,.string t169,.int .i64 t170,.string (⟨#[]⟩ : ByteArray),.string (⟨#[]⟩ : ByteArray)]) ?_ 3 _ rfl;(with_reducible repeat (first|refine blk_drewN ?_ _|refine blk_drew ?_|refine blk_alloc ?_ _));refine blk_put (cs:=#[.string t168,.string t169,.int .i64 0,.string (⟨#[]⟩ : ByteArray),.string (⟨#[]⟩ : ByteArray)]) ?_ 2 _ rfl;(with_reducible repeat (first|refine blk_drewN ?_ _|refine blk_drew ?_|refine blk_alloc ?_ _));refine blk_put (cs:=#[.string t168,.string (⟨#[]⟩ : ByteArray),.int .i64 0,.string (⟨#[]⟩ : ByteArray),.string (⟨#[]⟩ : ByteArray)]) ?_ 1 _ rfl;(with_reducible repeat (first|refine blk_drewN ?_ _|refine blk_drew ?_|refine blk_alloc ?_ _));refine blk_put (cs:=#[.string (⟨#[]⟩ : ByteArray),.string (⟨#[]⟩ : ByteArray),.int .i64 0,.string (⟨#[]⟩ : ByteArray),.string (⟨#[]⟩ : ByteArray)]) ?_ 0 _ rfl;(with_reducible repeat (first|refine blk_drewN ?_ _|refine blk_drew ?_|refine blk_alloc ?_ _));exact BK160.out) Tryd.underlying44 rfl (by kernel_rfl)) rfl ?_
               exact ⟨by first|rfl|(simp [errW_none,errW_some] <;> rfl)|(simp [*,errW_none,errW_some] <;> rfl),by repeat (first|(with_reducible first|exact HB.out|apply below_alloc|apply pw_below_drewN|apply below_drew1|refine below_set ?_ GE160.out|refine below_set ?_ GE172.out|refine below_set ?_ GE179.out)|exact HB.out)⟩
         ·rw [if_neg c18] at H
          have c18b0 : (t171 == 0) = false:=beq_eq_false_iff_ne.mpr c18
          have c18b1 : (t171 != 0) = true:=bne_iff_ne.mpr c18
          simp only [Option.some.injEq,Prod.mk.injEq] at H
          obtain ⟨rfl,rfl,rfl,rfl,rfl,rfl⟩:=H
          go_wp2_with (first|((with_reducible refine gate_callee (f:=19) rfl ?_);refine goesL_ (some 46) rfl rfl Tryd.func19 (by kernel_rfl) rfl #[.string ((t164 ++ (⟨#[58,47,47]⟩ : ByteArray)) ++ (t165.extract 0 (x7_8 : Int).toNat))] rfl (by (try simp only [List.map_toArray,List.map_cons,List.map_nil]);first|done|rfl|(simp only [List.length_drop,List.length_take];rfl)) ?_;(with_reducible refine (origin_Parse.calls kj8 ((t164 ++ (⟨#[58,47,47]⟩ : ByteArray)) ++ (t165.extract 0 (x7_8 : Int).toNat)) t168 t169 t170 t171 _ ?side1 A17.out).mono ?_);(case side1 => exact ⟨by repeat (first|(with_reducible exact hM_.out)|(with_reducible exact LaidW.below hM_.out HB.out)|(with_reducible refine LaidW.alloc ?_ _)|(with_reducible refine LaidW.drewN ?_ _)|(with_reducible refine LaidW.drew ?_)|exact LaidW.below hM_.out (by repeat (first|(with_reducible first|exact HB.out|apply below_alloc|apply pw_below_drewN|apply below_drew1|refine below_set ?_ GE160.out)|exact HB.out)))⟩);rintro e w102 ⟨rfl,hb⟩;refine ⟨_,rfl,?_⟩;have n0_:=Aside0.mk (blk_below (g:=gb160) (o:=.cells #[.string (⟨#[]⟩ : ByteArray),.string (⟨#[]⟩ : ByteArray),.int .i64 0,.string (⟨#[]⟩ : ByteArray),.string (⟨#[]⟩ : ByteArray)] 44 (0,0)) (by (with_reducible repeat (first|refine blk_drewN ?_ _|refine blk_drew ?_|refine blk_alloc ?_ _));exact BK160.out) hb);have n1_:=Aside0.mk (below_step (by repeat (first|(with_reducible first|exact HB.out|apply below_alloc|apply pw_below_drewN|apply below_drew1|refine below_set ?_ GE160.out)|exact HB.out)) hb);clear BK160;clear HB;have BK160:=n0_;have HB:=n1_;clear n0_ n1_;(try clear hb);(try clear hb2);(try clear hk);(try clear hi))|((with_reducible refine gate_dst (N:=8) rfl ?_);refine box_event ?hg (N:=8) ?hd (cs:=#[.string (⟨#[]⟩ : ByteArray),.string (⟨#[]⟩ : ByteArray),.int .i64 0]) (t:=23) ?hr ?_;(case hd => rfl);(case hg => rfl);(case hr => first|(go_simp;done)|(go_simp;rfl));intro gb172 hg w103 hbox hb;have n0_:=Aside0.mk (blk_below (g:=gb160) (o:=.cells #[.string (⟨#[]⟩ : ByteArray),.string (⟨#[]⟩ : ByteArray),.int .i64 0,.string (⟨#[]⟩ : ByteArray),.string (⟨#[]⟩ : ByteArray)] 44 (0,0)) (by (with_reducible repeat (first|refine blk_drewN ?_ _|refine blk_drew ?_|refine blk_alloc ?_ _));exact BK160.out) hb);have n1_:=Aside0.mk (below_step (by repeat (first|(with_reducible first|exact HB.out|apply below_alloc|apply pw_below_drewN|apply below_drew1|refine below_set ?_ GE160.out)|exact HB.out)) hb);have n2_:=Aside0.mk (hbox);have n3_:=Aside0.mk ((by rw [hg];exact (below_size (by repeat (first|(with_reducible first|exact HB.out|apply below_alloc|apply pw_below_drewN|apply below_drew1|refine below_set ?_ GE160.out)|exact HB.out))) : w.heap.size ≤ gb172));have n4_:=Aside0.mk ((by rw [hg];exact (below_size (by repeat (first|(with_reducible first|exact HB.out|apply below_alloc|apply pw_below_drewN|apply below_drew1|refine below_set ?_ GE160.out)|exact HB.out))) : w.heap.size ≤ gb172));have n5_:=Aside0.mk ((by rw [hg];exact Nat.ne_of_lt (blk_lt (g:=gb160) (o:=.cells #[.string (⟨#[]⟩ : ByteArray),.string (⟨#[]⟩ : ByteArray),.int .i64 0,.string (⟨#[]⟩ : ByteArray),.string (⟨#[]⟩ : ByteArray)] 44 (0,0)) (by (with_reducible repeat (first|refine blk_drewN ?_ _|refine blk_drew ?_|refine blk_alloc ?_ _));exact BK160.out)) : gb160 ≠ gb172));have n6_:=Aside0.mk ((by rw [hg];exact Nat.ne_of_gt (blk_lt (g:=gb160) (o:=.cells #[.string (⟨#[]⟩ : ByteArray),.string (⟨#[]⟩ : ByteArray),.int .i64 0,.string (⟨#[]⟩ : ByteArray),.string (⟨#[]⟩ : ByteArray)] 44 (0,0)) (by (with_reducible repeat (first|refine blk_drewN ?_ _|refine blk_drew ?_|refine blk_alloc ?_ _));exact BK160.out)) : gb172 ≠ gb160));clear BK160;clear HB;have BK160:=n0_;have HB:=n1_;have BK172:=n2_;have GW172:=n3_;have GE172:=n4_;have NB160_172:=n5_;have NB172_160:=n6_;clear n0_ n1_ n2_ n3_ n4_ n5_ n6_;clear hb hbox hg;have hnb104:=NB172_160.out;have hnc104:=NB160_172.out;have hcz105_0 : w103.cell? ⟨gb172,0,none⟩ = some (.string (⟨#[]⟩ : ByteArray)):=(blk_cell BK172.out 0).trans rfl;have hcz105_1 : w103.cell? ⟨gb172,1,none⟩ = some (.string (⟨#[]⟩ : ByteArray)):=(blk_cell BK172.out 1).trans rfl;have hcz105_2 : w103.cell? ⟨gb172,2,none⟩ = some (.int .i64 0):=(blk_cell BK172.out 2).trans rfl;have hfz105_0:=blk_frozen BK172.out 0;have hfz105_1:=blk_frozen BK172.out 1;have hfz105_2:=blk_frozen BK172.out 2;have hcz106_0 : w103.cell? ⟨gb160,0,none⟩ = some (.string (⟨#[]⟩ : ByteArray)):=(blk_cell BK160.out 0).trans rfl;have hcz106_1 : w103.cell? ⟨gb160,1,none⟩ = some (.string (⟨#[]⟩ : ByteArray)):=(blk_cell BK160.out 1).trans rfl;have hcz106_2 : w103.cell? ⟨gb160,2,none⟩ = some (.int .i64 0):=(blk_cell BK160.out 2).trans rfl;have hcz106_3 : w103.cell? ⟨gb160,3,none⟩ = some (.string (⟨#[]⟩ : ByteArray)):=(blk_cell BK160.out 3).trans rfl;have hcz106_4 : w103.cell? ⟨gb160,4,none⟩ = some (.string (⟨#[]⟩ : ByteArray)):=(blk_cell BK160.out 4).trans rfl;have hfz106_0:=blk_frozen BK160.out 0;have hfz106_1:=blk_frozen BK160.out 1;have hfz106_2:=blk_frozen BK160.out 2;have hfz106_3:=blk_frozen BK160.out 3;have hfz106_4:=blk_frozen BK160.out 4))
          refine bodyPost_ret (results_ct rfl _ _ gb160 44 #[.string (⟨#[]⟩ : ByteArray),.string (⟨#[]⟩ : ByteArray),.int .i64 0,.string (⟨#[]⟩ : ByteArray),.string (⟨#[]⟩ : ByteArray)] (0,0) _ rfl (by (with_reducible repeat (first|refine blk_drewN ?_ _|refine blk_drew ?_|refine blk_alloc ?_ _));refine blk_put (cs:=#[.string (⟨#[]⟩ : ByteArray),.string (⟨#[]⟩ : ByteArray),.int .i64 0,.string (⟨#[]⟩ : ByteArray),.string (⟨#[]⟩ : ByteArray)]) ?_ 4 _ rfl;(with_reducible repeat (first|refine blk_drewN ?_ _|refine blk_drew ?_|refine blk_alloc ?_ _));refine blk_put (cs:=#[.string (⟨#[]⟩ : ByteArray),.string (⟨#[]⟩ : ByteArray),.int .i64 0,.string (⟨#[]⟩ : ByteArray),.string (⟨#[]⟩ : ByteArray)]) ?_ 3 _ rfl;(with_reducible repeat (first|refine blk_drewN ?_ _|refine blk_drew ?_|refine blk_alloc ?_ _));refine blk_put (cs:=#[.string (⟨#[]⟩ : ByteArray),.string (⟨#[]⟩ : ByteArray),.int .i64 0,.string (⟨#[]⟩ : ByteArray),.string (⟨#[]⟩ : ByteArray)]) ?_ 2 _ rfl;(with_reducible repeat (first|refine blk_drewN ?_ _|refine blk_drew ?_|refine blk_alloc ?_ _));refine blk_put (cs:=#[.string (⟨#[]⟩ : ByteArray),.string (⟨#[]⟩ : ByteArray),.int .i64 0,.string (⟨#[]⟩ : ByteArray),.string (⟨#[]⟩ : ByteArray)]) ?_ 1 _ rfl;(with_reducible repeat (first|refine blk_drewN ?_ _|refine blk_drew ?_|refine blk_alloc ?_ _));refine blk_put (cs:=#[.string (⟨#[]⟩ : ByteArray),.string (⟨#[]⟩ : ByteArray),.int .i64 0,.string (⟨#[]⟩ : ByteArray),.string (⟨#[]⟩ : ByteArray)]) ?_ 0 _ rfl;(with_reducible repeat (first|refine blk_drewN ?_ _|refine blk_drew ?_|refine blk_alloc ?_ _));refine blk_far ?_ NB160_172.out _;(with_reducible repeat (first|refine blk_drewN ?_ _|refine blk_drew ?_|refine blk_alloc ?_ _));refine blk_far ?_ NB160_172.out _;(with_reducible repeat (first|refine blk_drewN ?_ _|refine blk_drew ?_|refine blk_alloc ?_ _));refine blk_far ?_ NB160_172.out _;(with_reducible repeat (first|refine blk_drewN ?_ _|refine blk_drew ?_|refine blk_alloc ?_ _));exact BK160.out) Tryd.underlying44 rfl (by kernel_rfl)) rfl ?_
          exact ⟨by first|rfl|(simp [errW_none,errW_some] <;> rfl)|(simp [*,errW_none,errW_some] <;> rfl),by repeat (first|(with_reducible first|exact HB.out|apply below_alloc|apply pw_below_drewN|apply below_drew1|refine below_set ?_ GE160.out|refine below_set ?_ GE172.out)|exact HB.out)⟩
        ·rw [if_neg c16] at H
         exact absurd H (by simp)
       ·rw [if_neg c15] at H
        exact absurd H (by simp)
      ·rw [if_neg c14] at H
       exact absurd H (by simp)
     ·rw [if_neg c13] at H
      exact absurd H (by simp)
  ·replace c7:=Bool.eq_false_iff.mpr c7
   subst c7
   have H1 : (some ((⟨#[]⟩ : ByteArray),(⟨#[]⟩ : ByteArray),0,(⟨#[]⟩ : ByteArray),(⟨#[]⟩ : ByteArray),3)) = some (r1,r2,r3,r4,r5,r6):=by rw [if_neg (show ¬ (false = true) by decide)] at H;exact H
   clear H
   have H:=H1
   clear H1
   simp only [Option.some.injEq,Prod.mk.injEq] at H
   obtain ⟨rfl,rfl,rfl,rfl,rfl,rfl⟩:=H
   go_enter Tryd.func34,Tryd.ntmps34
   go_wp2_with (first|((with_reducible refine gate_dst (N:=2) rfl ?_);refine box_event ?hg (N:=2) ?hd (cs:=#[.string (⟨#[]⟩ : ByteArray),.string (⟨#[]⟩ : ByteArray),.int .i64 0,.string (⟨#[]⟩ : ByteArray),.string (⟨#[]⟩ : ByteArray)]) (t:=44) ?hr ?_;(case hd => rfl);(case hg => rfl);(case hr => first|(go_simp;done)|(go_simp;rfl));intro gb160 hg w107 hbox hb;have n0_:=Aside0.mk (below_step (by repeat (first|(with_reducible first|exact HB.out|apply below_alloc|apply pw_below_drewN|apply below_drew1)|exact HB.out)) hb);have n1_:=Aside0.mk (hbox);have n2_:=Aside0.mk ((by rw [hg];exact (below_size (by repeat (first|(with_reducible first|exact HB.out|apply below_alloc|apply pw_below_drewN|apply below_drew1)|exact HB.out))) : w.heap.size ≤ gb160));have n3_:=Aside0.mk ((by rw [hg];exact (below_size (by repeat (first|(with_reducible first|exact HB.out|apply below_alloc|apply pw_below_drewN|apply below_drew1)|exact HB.out))) : w.heap.size ≤ gb160));clear HB;have HB:=n0_;have BK160:=n1_;have GW160:=n2_;have GE160:=n3_;clear n0_ n1_ n2_ n3_;clear hb hbox hg)|((with_reducible refine gate_callee (f:=44) rfl ?_);refine goesL_ (some 20) rfl rfl Tryd.func44 (by kernel_rfl) rfl #[.string a0,.string (⟨#[35]⟩ : ByteArray)] rfl (by (try simp only [List.map_toArray,List.map_cons,List.map_nil]);first|done|rfl|(simp only [List.length_drop,List.length_take];rfl)) ?_;(with_reducible refine (strings_Cut.calls a0 (⟨#[35]⟩ : ByteArray) t161 t162 t163 _ ?side1 A5.out).mono ?_);(case side1 => exact ⟨by repeat (first|(with_reducible exact hM_.out)|(with_reducible exact LaidW.below hM_.out HB.out)|(with_reducible refine LaidW.alloc ?_ _)|(with_reducible refine LaidW.drewN ?_ _)|(with_reducible refine LaidW.drew ?_)|exact LaidW.below hM_.out (by repeat (first|(with_reducible first|exact HB.out|apply below_alloc|apply pw_below_drewN|apply below_drew1|refine below_set ?_ GE160.out)|exact HB.out)))⟩);rintro e w' ⟨rfl,⟨nd,rfl⟩⟩;refine ⟨_,rfl,?_⟩;(try (rw [drewN_self w107];generalize hq_ : World.drewN w107 _ = w107;have n0_ : Aside0 (w107.heap[gb160]? = some (.cells #[.string (⟨#[]⟩ : ByteArray),.string (⟨#[]⟩ : ByteArray),.int .i64 0,.string (⟨#[]⟩ : ByteArray),.string (⟨#[]⟩ : ByteArray)] 44 (0,0))):=⟨by rw [← hq_];exact (by (with_reducible repeat (first|refine blk_drewN ?_ _|refine blk_drew ?_|refine blk_alloc ?_ _));exact BK160.out)⟩;have n1_ : Aside0 (Below w.heap.size w w107):=⟨by rw [← hq_];exact (by repeat (first|(with_reducible first|exact HB.out|apply below_alloc|apply pw_below_drewN|apply below_drew1|refine below_set ?_ GE160.out)|exact HB.out))⟩;clear BK160 HB hq_;have BK160:=n0_;have HB:=n1_;clear n0_ n1_)))|((with_reducible refine gate_callee (f:=44) rfl ?_);refine goesL_ (some 26) rfl rfl Tryd.func44 (by kernel_rfl) rfl #[.string t161,.string (⟨#[58,47,47]⟩ : ByteArray)] rfl (by (try simp only [List.map_toArray,List.map_cons,List.map_nil]);first|done|rfl|(simp only [List.length_drop,List.length_take];rfl)) ?_;(with_reducible refine (strings_Cut.calls t161 (⟨#[58,47,47]⟩ : ByteArray) t164 t165 false _ ?side1 A6.out).mono ?_);(case side1 => exact ⟨by repeat (first|(with_reducible exact hM_.out)|(with_reducible exact LaidW.below hM_.out HB.out)|(with_reducible refine LaidW.alloc ?_ _)|(with_reducible refine LaidW.drewN ?_ _)|(with_reducible refine LaidW.drew ?_)|exact LaidW.below hM_.out (by repeat (first|(with_reducible first|exact HB.out|apply below_alloc|apply pw_below_drewN|apply below_drew1|refine below_set ?_ GE160.out)|exact HB.out)))⟩);rintro e w' ⟨rfl,⟨nd,rfl⟩⟩;refine ⟨_,rfl,?_⟩;(try (rw [drewN_self w107];generalize hq_ : World.drewN w107 _ = w107;have n0_ : Aside0 (w107.heap[gb160]? = some (.cells #[.string (⟨#[]⟩ : ByteArray),.string (⟨#[]⟩ : ByteArray),.int .i64 0,.string (⟨#[]⟩ : ByteArray),.string (⟨#[]⟩ : ByteArray)] 44 (0,0))):=⟨by rw [← hq_];exact (by (with_reducible repeat (first|refine blk_drewN ?_ _|refine blk_drew ?_|refine blk_alloc ?_ _));exact BK160.out)⟩;have n1_ : Aside0 (Below w.heap.size w w107):=⟨by rw [← hq_];exact (by repeat (first|(with_reducible first|exact HB.out|apply below_alloc|apply pw_below_drewN|apply below_drew1|refine below_set ?_ GE160.out)|exact HB.out))⟩;clear BK160 HB hq_;have BK160:=n0_;have HB:=n1_;clear n0_ n1_));have hcz108_0 : w107.cell? ⟨gb160,0,none⟩ = some (.string (⟨#[]⟩ : ByteArray)):=(blk_cell BK160.out 0).trans rfl;have hcz108_1 : w107.cell? ⟨gb160,1,none⟩ = some (.string (⟨#[]⟩ : ByteArray)):=(blk_cell BK160.out 1).trans rfl;have hcz108_2 : w107.cell? ⟨gb160,2,none⟩ = some (.int .i64 0):=(blk_cell BK160.out 2).trans rfl;have hcz108_3 : w107.cell? ⟨gb160,3,none⟩ = some (.string (⟨#[]⟩ : ByteArray)):=(blk_cell BK160.out 3).trans rfl;have hcz108_4 : w107.cell? ⟨gb160,4,none⟩ = some (.string (⟨#[]⟩ : ByteArray)):=(blk_cell BK160.out 4).trans rfl;have hfz108_0:=blk_frozen BK160.out 0;have hfz108_1:=blk_frozen BK160.out 1;have hfz108_2:=blk_frozen BK160.out 2;have hfz108_3:=blk_frozen BK160.out 3;have hfz108_4:=blk_frozen BK160.out 4))
   refine bodyPost_ret (results_ct rfl _ _ gb160 44 #[.string (⟨#[]⟩ : ByteArray),.string (⟨#[]⟩ : ByteArray),.int .i64 0,.string (⟨#[]⟩ : ByteArray),.string (⟨#[]⟩ : ByteArray)] (0,0) _ rfl (by (with_reducible repeat (first|refine blk_drewN ?_ _|refine blk_drew ?_|refine blk_alloc ?_ _));refine blk_put (cs:=#[.string (⟨#[]⟩ : ByteArray),.string (⟨#[]⟩ : ByteArray),.int .i64 0,.string (⟨#[]⟩ : ByteArray),.string (⟨#[]⟩ : ByteArray)]) ?_ 4 _ rfl;(with_reducible repeat (first|refine blk_drewN ?_ _|refine blk_drew ?_|refine blk_alloc ?_ _));refine blk_put (cs:=#[.string (⟨#[]⟩ : ByteArray),.string (⟨#[]⟩ : ByteArray),.int .i64 0,.string (⟨#[]⟩ : ByteArray),.string (⟨#[]⟩ : ByteArray)]) ?_ 3 _ rfl;(with_reducible repeat (first|refine blk_drewN ?_ _|refine blk_drew ?_|refine blk_alloc ?_ _));refine blk_put (cs:=#[.string (⟨#[]⟩ : ByteArray),.string (⟨#[]⟩ : ByteArray),.int .i64 0,.string (⟨#[]⟩ : ByteArray),.string (⟨#[]⟩ : ByteArray)]) ?_ 2 _ rfl;(with_reducible repeat (first|refine blk_drewN ?_ _|refine blk_drew ?_|refine blk_alloc ?_ _));refine blk_put (cs:=#[.string (⟨#[]⟩ : ByteArray),.string (⟨#[]⟩ : ByteArray),.int .i64 0,.string (⟨#[]⟩ : ByteArray),.string (⟨#[]⟩ : ByteArray)]) ?_ 1 _ rfl;(with_reducible repeat (first|refine blk_drewN ?_ _|refine blk_drew ?_|refine blk_alloc ?_ _));refine blk_put (cs:=#[.string (⟨#[]⟩ : ByteArray),.string (⟨#[]⟩ : ByteArray),.int .i64 0,.string (⟨#[]⟩ : ByteArray),.string (⟨#[]⟩ : ByteArray)]) ?_ 0 _ rfl;(with_reducible repeat (first|refine blk_drewN ?_ _|refine blk_drew ?_|refine blk_alloc ?_ _));exact BK160.out) Tryd.underlying44 rfl (by kernel_rfl)) rfl ?_
   exact ⟨by first|rfl|(simp [errW_none,errW_some] <;> rfl)|(simp [*,errW_none,errW_some] <;> rfl),by repeat (first|(with_reducible first|exact HB.out|apply below_alloc|apply pw_below_drewN|apply below_drew1|refine below_set ?_ GE160.out)|exact HB.out)⟩

end Go.Proofs.YtbfbidifodcedaaDoor.Pr
