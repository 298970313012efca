-- Made by a program of this session (wip/xp/xp.py), over the print's words.
import Derived.Test.YtbfbidifodcedaaDoorPr0
import Derived.Test.YtbfbidifodcedaaDoorPr5
import Derived.Test.YtbfbidifodcedaaDoorPr6
import Derived.Test.YtbfbidifodcedaaDoorG1
namespace Go.Proofs.YtbfbidifodcedaaDoor.Pr
open Go.RowKit Go.Proofs.YtbfbidifodcedaaDoorW.PrintWords Go.Proofs.YtbfbidifodcedaaDoorW.PrintLast Go.Proofs.YtbfbidifodcedaaDoorW.PrintMore
attribute [local go_sem] max2_int min2_int max_two min_two max_three min_three max_four min_four   -- for this text's walks alone
set_option linter.unusedVariables false
set_option linter.unusedSimpArgs false

/-! ### lockkeeperref3_Parse: function 20 -/
mutual
def lockkeeperref3_Parse.j1 : Nat → ByteArray → ByteArray → ByteArray → Int → Option (ByteArray × ByteArray × Int × Int)
 | 0,_,_,_,_ => none
 | k + 1,x6,x218000,x218001,x218002 => (lockkeeperref1_Lower.f x6).bind fun t221 => ((lockkeeperref3_Check.f k x218000 t221 x218002).bind fun t222 => (if t222 = true then (some (x218000,t221,x218002,0)) else (some ((⟨#[]⟩ : ByteArray),(⟨#[]⟩ : ByteArray),0,3))))
def lockkeeperref3_Parse.l0 : Nat → ByteArray → Int → ByteArray → ByteArray → Int → Option (ByteArray × ByteArray × Int × Int)
 | 0,_,_,_,_,_ => none
 | k + 1,x6,x7,x218000,x218001,x218002 => if x7 < (x6.size : Int) then (if 0 ≤ x7 then (if (bt x6 x7) = 58 then (if 0 ≤ (wrap64 (x7 + 1)) then (if (wrap64 (x7 + 1)) ≤ (x6.size : Int) then ((lockkeeperref1_Count.f k (x6.extract ((wrap64 (x7 + 1)) : Int).toNat x6.size) 65535).bind fun bt219 => (if bt219.2 = true then (if bt219.1 < 1 then (some ((⟨#[]⟩ : ByteArray),(⟨#[]⟩ : ByteArray),0,3)) else (if x7 ≤ (x6.size : Int) then (lockkeeperref3_Parse.j1 k (x6.extract 0 (x7 : Int).toNat) x218000 x218001 (wrap64 (bt219.1))) else (none))) else (some ((⟨#[]⟩ : ByteArray),(⟨#[]⟩ : ByteArray),0,3)))) else (none)) else (none)) else (lockkeeperref3_Parse.l0 k x6 (wrap64 (x7 + 1)) x218000 x218001 x218002)) else (none)) else (lockkeeperref3_Parse.j1 k x6 x218000 x218001 x218002)
end
def lockkeeperref3_Parse.f (k : Nat) (a0 : ByteArray) : Option (ByteArray × ByteArray × Int × Int):=if (a0.size : Int) > 512 then (some ((⟨#[]⟩ : ByteArray),(⟨#[]⟩ : ByteArray),0,4)) else ((lockkeeperref3_Behind.f k a0).bind fun t215 => (if t215 < 0 then (some ((⟨#[]⟩ : ByteArray),(⟨#[]⟩ : ByteArray),0,3)) else (if 0 ≤ t215 then (if t215 ≤ (a0.size : Int) then ((lockkeeperref1_Lower.f (a0.extract 0 (t215 : Int).toNat)).bind fun t216 => (if 0 ≤ (wrap64 (t215 + 3)) then (if (wrap64 (t215 + 3)) ≤ (a0.size : Int) then ((lockkeeperref3_Default.f t216).bind fun t218 => (lockkeeperref3_Parse.l0 k (a0.extract ((wrap64 (t215 + 3)) : Int).toNat a0.size) 0 t216 (⟨#[]⟩ : ByteArray) t218)) else (none)) else (none))) else (none)) else (none))))
theorem lockkeeperref3_Parse.mono_l : ∀ k,(∀ y0 y1 y2 y3,LeO (lockkeeperref3_Parse.j1 k y0 y1 y2 y3) (lockkeeperref3_Parse.j1 (k + 1) y0 y1 y2 y3)) ∧ (∀ y0 y1 y2 y3 y4,LeO (lockkeeperref3_Parse.l0 k y0 y1 y2 y3 y4) (lockkeeperref3_Parse.l0 (k + 1) y0 y1 y2 y3 y4))
 | 0 => ⟨fun _ _ _ _ r h => by simp [lockkeeperref3_Parse.j1] at h,fun _ _ _ _ _ r h => by simp [lockkeeperref3_Parse.l0] at h⟩
 | k + 1 => by
  obtain ⟨ih0,ih1⟩:=lockkeeperref3_Parse.mono_l k
  refine ⟨?_,?_⟩
  ·intro y0 y1 y2 y3
   unfold lockkeeperref3_Parse.j1
   repeat' first
   | (with_reducible exact ih0 _ _ _ _)
   | (with_reducible exact ih1 _ _ _ _ _)
   | (with_reducible exact lockkeeperref1_Count.mono _ _ _)
   | (with_reducible exact lockkeeperref3_Behind.mono _ _)
   | (with_reducible exact lockkeeperref3_Check.mono _ _ _ _)
   | (with_reducible exact LeO.refl _)
   | (with_reducible exact LeO.none _)
   | (with_reducible refine LeO.ite ?_ ?_)
   | (with_reducible refine LeO.bind ?_ (fun _ => ?_))
   | exact ih0 _ _ _ _
   | exact ih1 _ _ _ _ _
   | exact lockkeeperref1_Count.mono _ _ _
   | exact lockkeeperref3_Behind.mono _ _
   | exact lockkeeperref3_Check.mono _ _ _ _
   | exact LeO.none _
   | refine LeO.ite ?_ ?_
   | refine LeO.bind ?_ (fun _ => ?_)
  ·intro y0 y1 y2 y3 y4
   unfold lockkeeperref3_Parse.l0
   repeat' first
   | (with_reducible exact ih0 _ _ _ _)
   | (with_reducible exact ih1 _ _ _ _ _)
   | (with_reducible exact lockkeeperref1_Count.mono _ _ _)
   | (with_reducible exact lockkeeperref3_Behind.mono _ _)
   | (with_reducible exact lockkeeperref3_Check.mono _ _ _ _)
   | (with_reducible exact LeO.refl _)
   | (with_reducible exact LeO.none _)
   | (with_reducible refine LeO.ite ?_ ?_)
   | (with_reducible refine LeO.bind ?_ (fun _ => ?_))
   | exact ih0 _ _ _ _
   | exact ih1 _ _ _ _ _
   | exact lockkeeperref1_Count.mono _ _ _
   | exact lockkeeperref3_Behind.mono _ _
   | exact lockkeeperref3_Check.mono _ _ _ _
   | exact LeO.none _
   | refine LeO.ite ?_ ?_
   | refine LeO.bind ?_ (fun _ => ?_)
theorem lockkeeperref3_Parse.mono : ∀ a0 k,LeO (lockkeeperref3_Parse.f k a0) (lockkeeperref3_Parse.f (k + 1) a0):=by
 intro a0 k
 obtain ⟨ih0,ih1⟩:=lockkeeperref3_Parse.mono_l k
 unfold lockkeeperref3_Parse.f
 repeat' first
   | (with_reducible exact ih0 _ _ _ _)
   | (with_reducible exact ih1 _ _ _ _ _)
   | (with_reducible exact lockkeeperref1_Count.mono _ _ _)
   | (with_reducible exact lockkeeperref3_Behind.mono _ _)
   | (with_reducible exact lockkeeperref3_Check.mono _ _ _ _)
   | (with_reducible exact LeO.refl _)
   | (with_reducible exact LeO.none _)
   | (with_reducible refine LeO.ite ?_ ?_)
   | (with_reducible refine LeO.bind ?_ (fun _ => ?_))
   | exact ih0 _ _ _ _
   | exact ih1 _ _ _ _ _
   | exact lockkeeperref1_Count.mono _ _ _
   | exact lockkeeperref3_Behind.mono _ _
   | exact lockkeeperref3_Check.mono _ _ _ _
   | exact LeO.none _
   | refine LeO.ite ?_ ?_
   | refine LeO.bind ?_ (fun _ => ?_)
set_option maxHeartbeats 8000000 in
set_option maxRecDepth 100000 in
theorem lockkeeperref3_Parse.calls (k : Nat) (a0 : ByteArray) (r1 : ByteArray) (r2 : ByteArray) (r3 : Int) (r4 : Int) (w : World) (h : lockkeeperref3_Parse.f k a0 = some (r1,r2,r3,r4)) :
  Calls Tryd.prog 20 #[.string a0] w fun e w' => e = .returned (.tuple #[.agg #[.string r1,.string r2,.int .i64 r3],.int .i64 r4]) ∧ Below w.heap.size w w':=by
 have hu23:=Tryd.underlying23
 have HB:=Aside0.mk (Below.refl w.heap.size w)
 have H : (if (a0.size : Int) > 512 then (some ((⟨#[]⟩ : ByteArray),(⟨#[]⟩ : ByteArray),0,4)) else ((lockkeeperref3_Behind.f k a0).bind fun t215 => (if t215 < 0 then (some ((⟨#[]⟩ : ByteArray),(⟨#[]⟩ : ByteArray),0,3)) else (if 0 ≤ t215 then (if t215 ≤ (a0.size : Int) then ((lockkeeperref1_Lower.f (a0.extract 0 (t215 : Int).toNat)).bind fun t216 => (if 0 ≤ (wrap64 (t215 + 3)) then (if (wrap64 (t215 + 3)) ≤ (a0.size : Int) then ((lockkeeperref3_Default.f t216).bind fun t218 => (lockkeeperref3_Parse.l0 k (a0.extract ((wrap64 (t215 + 3)) : Int).toNat a0.size) 0 t216 (⟨#[]⟩ : ByteArray) t218)) else (none)) else (none))) else (none)) else (none))))) = some (r1,r2,r3,r4):=h
 clear h
 by_cases c2 : (a0.size : Int) > 512
 ·rw [if_pos c2] at H
  have c2b0 : decide (512 < (a0.size : Int)) = true:=decide_eq_true c2
  have c2b1 : decide (512 < a0.size) = true:=decide_eq_true (by omega)
  clear c2
  simp only [Option.some.injEq,Prod.mk.injEq] at H
  obtain ⟨rfl,rfl,rfl,rfl⟩:=H
  go_enter Tryd.func20,Tryd.ntmps20
  go_wp2_with (first|((with_reducible refine gate_dst (N:=2) rfl ?_);refine box_event ?hg (N:=2) ?hd (cs:=#[.string (⟨#[]⟩ : ByteArray),.string (⟨#[]⟩ : ByteArray),.int .i64 0]) (t:=23) ?hr ?_;(case hd => rfl);(case hg => rfl);(case hr => first|(go_simp;done)|(go_simp;rfl));intro gb214 hg w3 hbox hb;have n0_:=Aside0.mk (below_step (by repeat (first|(with_reducible first|exact HB.out|apply below_alloc|apply pw_below_drewN|apply below_drew1)|exact HB.out)) hb);have n1_:=Aside0.mk (hbox);have n2_:=Aside0.mk ((by rw [hg];exact (below_size (by repeat (first|(with_reducible first|exact HB.out|apply below_alloc|apply pw_below_drewN|apply below_drew1)|exact HB.out))) : w.heap.size ≤ gb214));have n3_:=Aside0.mk ((by rw [hg];exact (below_size (by repeat (first|(with_reducible first|exact HB.out|apply below_alloc|apply pw_below_drewN|apply below_drew1)|exact HB.out))) : w.heap.size ≤ gb214));clear HB;have HB:=n0_;have BK214:=n1_;have GW214:=n2_;have GE214:=n3_;clear n0_ n1_ n2_ n3_;clear hb hbox hg;have hcz4_0 : w3.cell? ⟨gb214,0,none⟩ = some (.string (⟨#[]⟩ : ByteArray)):=(blk_cell BK214.out 0).trans rfl;have hcz4_1 : w3.cell? ⟨gb214,1,none⟩ = some (.string (⟨#[]⟩ : ByteArray)):=(blk_cell BK214.out 1).trans rfl;have hcz4_2 : w3.cell? ⟨gb214,2,none⟩ = some (.int .i64 0):=(blk_cell BK214.out 2).trans rfl;have hfz4_0:=blk_frozen BK214.out 0;have hfz4_1:=blk_frozen BK214.out 1;have hfz4_2:=blk_frozen BK214.out 2))
  refine bodyPost_ret (results_ct rfl _ _ gb214 23 #[.string (⟨#[]⟩ : ByteArray),.string (⟨#[]⟩ : ByteArray),.int .i64 0] (0,0) _ rfl (by (with_reducible repeat (first|refine blk_drewN ?_ _|refine blk_drew ?_|refine blk_alloc ?_ _));refine blk_put (cs:=#[.string (⟨#[]⟩ : ByteArray),.string (⟨#[]⟩ : ByteArray),.int .i64 0]) ?_ 2 _ rfl;(with_reducible repeat (first|refine blk_drewN ?_ _|refine blk_drew ?_|refine blk_alloc ?_ _));refine blk_put (cs:=#[.string (⟨#[]⟩ : ByteArray),.string (⟨#[]⟩ : ByteArray),.int .i64 0]) ?_ 1 _ rfl;(with_reducible repeat (first|refine blk_drewN ?_ _|refine blk_drew ?_|refine blk_alloc ?_ _));refine blk_put (cs:=#[.string (⟨#[]⟩ : ByteArray),.string (⟨#[]⟩ : ByteArray),.int .i64 0]) ?_ 0 _ rfl;(with_reducible repeat (first|refine blk_drewN ?_ _|refine blk_drew ?_|refine blk_alloc ?_ _));exact BK214.out) Tryd.underlying23 rfl (by kernel_rfl)) rfl ?_
  exact ⟨by first|rfl|(simp [errW_none,errW_some] <;> rfl)|(simp [*,errW_none,errW_some] <;> rfl),by repeat (first|(with_reducible first|exact HB.out|apply below_alloc|apply pw_below_drewN|apply below_drew1|refine below_set ?_ GE214.out)|exact HB.out)⟩
 ·rw [if_neg c2] at H
  have c2b0 : decide (512 < (a0.size : Int)) = false:=decide_eq_false c2
  have c2b1 : decide (512 < a0.size) = false:=decide_eq_false (by omega)
  clear c2
  replace H:=Option.bind_eq_some_iff.mp H
  obtain ⟨t215,A50,H⟩:=H
  replace H : (if t215 < 0 then (some ((⟨#[]⟩ : ByteArray),(⟨#[]⟩ : ByteArray),0,3)) else (if 0 ≤ t215 then (if t215 ≤ (a0.size : Int) then ((lockkeeperref1_Lower.f (a0.extract 0 (t215 : Int).toNat)).bind fun t216 => (if 0 ≤ (wrap64 (t215 + 3)) then (if (wrap64 (t215 + 3)) ≤ (a0.size : Int) then ((lockkeeperref3_Default.f t216).bind fun t218 => (lockkeeperref3_Parse.l0 k (a0.extract ((wrap64 (t215 + 3)) : Int).toNat a0.size) 0 t216 (⟨#[]⟩ : ByteArray) t218)) else (none)) else (none))) else (none)) else (none))) = some (r1,r2,r3,r4):=H
  have A5:=Aside0.mk A50
  clear A50
  by_cases c6 : t215 < 0
  ·rw [if_pos c6] at H
   have c6b0 : decide (t215 < 0) = true:=decide_eq_true c6
   clear c6
   simp only [Option.some.injEq,Prod.mk.injEq] at H
   obtain ⟨rfl,rfl,rfl,rfl⟩:=H
   go_enter Tryd.func20,Tryd.ntmps20
   go_wp2_with (first|((with_reducible refine gate_dst (N:=2) rfl ?_);refine box_event ?hg (N:=2) ?hd (cs:=#[.string (⟨#[]⟩ : ByteArray),.string (⟨#[]⟩ : ByteArray),.int .i64 0]) (t:=23) ?hr ?_;(case hd => rfl);(case hg => rfl);(case hr => first|(go_simp;done)|(go_simp;rfl));intro gb214 hg w7 hbox hb;have n0_:=Aside0.mk (below_step (by repeat (first|(with_reducible first|exact HB.out|apply below_alloc|apply pw_below_drewN|apply below_drew1)|exact HB.out)) hb);have n1_:=Aside0.mk (hbox);have n2_:=Aside0.mk ((by rw [hg];exact (below_size (by repeat (first|(with_reducible first|exact HB.out|apply below_alloc|apply pw_below_drewN|apply below_drew1)|exact HB.out))) : w.heap.size ≤ gb214));have n3_:=Aside0.mk ((by rw [hg];exact (below_size (by repeat (first|(with_reducible first|exact HB.out|apply below_alloc|apply pw_below_drewN|apply below_drew1)|exact HB.out))) : w.heap.size ≤ gb214));clear HB;have HB:=n0_;have BK214:=n1_;have GW214:=n2_;have GE214:=n3_;clear n0_ n1_ n2_ n3_;clear hb hbox hg)|((with_reducible refine gate_callee (f:=42) rfl ?_);refine goesL_ (some 15) rfl rfl Tryd.func42 (by kernel_rfl) rfl #[.string a0] rfl (by (try simp only [List.map_toArray,List.map_cons,List.map_nil]);first|done|rfl|(simp only [List.length_drop,List.length_take];rfl)) ?_;(with_reducible refine (lockkeeperref3_Behind.calls k a0 t215 _ A5.out).mono ?_);rintro e w' ⟨rfl,⟨nd,rfl⟩⟩;refine ⟨_,rfl,?_⟩;(try (rw [drewN_self w7];generalize hq_ : World.drewN w7 _ = w7;have n0_ : Aside0 (w7.heap[gb214]? = some (.cells #[.string (⟨#[]⟩ : ByteArray),.string (⟨#[]⟩ : ByteArray),.int .i64 0] 23 (0,0))):=⟨by rw [← hq_];exact (by (with_reducible repeat (first|refine blk_drewN ?_ _|refine blk_drew ?_|refine blk_alloc ?_ _));exact BK214.out)⟩;have n1_ : Aside0 (Below w.heap.size w w7):=⟨by rw [← hq_];exact (by repeat (first|(with_reducible first|exact HB.out|apply below_alloc|apply pw_below_drewN|apply below_drew1|refine below_set ?_ GE214.out)|exact HB.out))⟩;clear BK214 HB hq_;have BK214:=n0_;have HB:=n1_;clear n0_ n1_));have hcz8_0 : w7.cell? ⟨gb214,0,none⟩ = some (.string (⟨#[]⟩ : ByteArray)):=(blk_cell BK214.out 0).trans rfl;have hcz8_1 : w7.cell? ⟨gb214,1,none⟩ = some (.string (⟨#[]⟩ : ByteArray)):=(blk_cell BK214.out 1).trans rfl;have hcz8_2 : w7.cell? ⟨gb214,2,none⟩ = some (.int .i64 0):=(blk_cell BK214.out 2).trans rfl;have hfz8_0:=blk_frozen BK214.out 0;have hfz8_1:=blk_frozen BK214.out 1;have hfz8_2:=blk_frozen BK214.out 2))
   refine bodyPost_ret (results_ct rfl _ _ gb214 23 #[.string (⟨#[]⟩ : ByteArray),.string (⟨#[]⟩ : ByteArray),.int .i64 0] (0,0) _ rfl (by (with_reducible repeat (first|refine blk_drewN ?_ _|refine blk_drew ?_|refine blk_alloc ?_ _));refine blk_put (cs:=#[.string (⟨#[]⟩ : ByteArray),.string (⟨#[]⟩ : ByteArray),.int .i64 0]) ?_ 2 _ rfl;(with_reducible repeat (first|refine blk_drewN ?_ _|refine blk_drew ?_|refine blk_alloc ?_ _));refine blk_put (cs:=#[.string (⟨#[]⟩ : ByteArray),.string (⟨#[]⟩ : ByteArray),.int .i64 0]) ?_ 1 _ rfl;(with_reducible repeat (first|refine blk_drewN ?_ _|refine blk_drew ?_|refine blk_alloc ?_ _));refine blk_put (cs:=#[.string (⟨#[]⟩ : ByteArray),.string (⟨#[]⟩ : ByteArray),.int .i64 0]) ?_ 0 _ rfl;(with_reducible repeat (first|refine blk_drewN ?_ _|refine blk_drew ?_|refine blk_alloc ?_ _));exact BK214.out) Tryd.underlying23 rfl (by kernel_rfl)) rfl ?_
   exact ⟨by first|rfl|(simp [errW_none,errW_some] <;> rfl)|(simp [*,errW_none,errW_some] <;> rfl),by repeat (first|(with_reducible first|exact HB.out|apply below_alloc|apply pw_below_drewN|apply below_drew1|refine below_set ?_ GE214.out)|exact HB.out)⟩
  ·rw [if_neg c6] at H
   have c6b0 : decide (t215 < 0) = false:=decide_eq_false c6
   clear c6
   by_cases c9 : 0 ≤ t215
   ·rw [if_pos c9] at H
    have c9b0:=eq_true c9
    have c9b1 : decide (0 ≤ t215) = true:=decide_eq_true c9
    clear c9
    by_cases c10 : t215 ≤ (a0.size : Int)
    ·rw [if_pos c10] at H
     have c10b0:=eq_true c10
     have c10b1 : decide (t215 ≤ (a0.size : Int)) = true:=decide_eq_true c10
     clear c10
     replace H:=Option.bind_eq_some_iff.mp H
     obtain ⟨t216,A110,H⟩:=H
     replace H : (if 0 ≤ (wrap64 (t215 + 3)) then (if (wrap64 (t215 + 3)) ≤ (a0.size : Int) then ((lockkeeperref3_Default.f t216).bind fun t218 => (lockkeeperref3_Parse.l0 k (a0.extract ((wrap64 (t215 + 3)) : Int).toNat a0.size) 0 t216 (⟨#[]⟩ : ByteArray) t218)) else (none)) else (none)) = some (r1,r2,r3,r4):=H
     have A11:=Aside0.mk A110
     clear A110
     obtain ⟨ji12,hji12⟩ : ∃ j_ : Int,(wrap64 (t215 + 3)) = j_:=⟨_,rfl⟩
     replace H : (if 0 ≤ (ji12) then (if (ji12) ≤ (a0.size : Int) then ((lockkeeperref3_Default.f t216).bind fun t218 => (lockkeeperref3_Parse.l0 k (a0.extract ((ji12) : Int).toNat a0.size) 0 t216 (⟨#[]⟩ : ByteArray) t218)) else (none)) else (none)) = some (r1,r2,r3,r4):=by first|(rw [hji12] at H;exact H)|(simp only [hji12] at H ⊢;exact H)
     (try rw [hji12] at A5)
     (try rw [hji12] at A11)
     have hji12w : (IntKind.i64.wrap (t215 + 3)) = ji12:=(i64_w _).trans hji12
     by_cases c13 : 0 ≤ (ji12)
     ·rw [if_pos c13] at H
      have c13b0:=eq_true c13
      have c13b1 : decide (0 ≤ (ji12)) = true:=decide_eq_true c13
      clear c13
      by_cases c14 : (ji12) ≤ (a0.size : Int)
      ·rw [if_pos c14] at H
       have c14b0:=eq_true c14
       have c14b1 : decide ((ji12) ≤ (a0.size : Int)) = true:=decide_eq_true c14
       clear c14
       replace H:=Option.bind_eq_some_iff.mp H
       obtain ⟨t218,A150,H⟩:=H
       replace H : (lockkeeperref3_Parse.l0 k (a0.extract ((ji12) : Int).toNat a0.size) 0 t216 (⟨#[]⟩ : ByteArray) t218) = some (r1,r2,r3,r4):=H
       have A15:=Aside0.mk A150
       clear A150
       have HC16:=Aside0.mk H
       clear H
       go_enter Tryd.func20,Tryd.ntmps20
       go_upto_block 0 with (first|((with_reducible refine gate_dst (N:=2) rfl ?_);refine box_event ?hg (N:=2) ?hd (cs:=#[.string (⟨#[]⟩ : ByteArray),.string (⟨#[]⟩ : ByteArray),.int .i64 0]) (t:=23) ?hr ?_;(case hd => rfl);(case hg => rfl);(case hr => first|(go_simp;done)|(go_simp;rfl));intro gb214 hg w17 hbox hb;have n0_:=Aside0.mk (below_step (by repeat (first|(with_reducible first|exact HB.out|apply below_alloc|apply pw_below_drewN|apply below_drew1)|exact HB.out)) hb);have n1_:=Aside0.mk (hbox);have n2_:=Aside0.mk ((by rw [hg];exact (below_size (by repeat (first|(with_reducible first|exact HB.out|apply below_alloc|apply pw_below_drewN|apply below_drew1)|exact HB.out))) : w.heap.size ≤ gb214));have n3_:=Aside0.mk ((by rw [hg];exact (below_size (by repeat (first|(with_reducible first|exact HB.out|apply below_alloc|apply pw_below_drewN|apply below_drew1)|exact HB.out))) : w.heap.size ≤ gb214));clear HB;have HB:=n0_;have BK214:=n1_;have GW214:=n2_;have GE214:=n3_;clear n0_ n1_ n2_ n3_;clear hb hbox hg)|((with_reducible refine gate_callee (f:=42) rfl ?_);refine goesL_ (some 15) rfl rfl Tryd.func42 (by kernel_rfl) rfl #[.string a0] rfl (by (try simp only [List.map_toArray,List.map_cons,List.map_nil]);first|done|rfl|(simp only [List.length_drop,List.length_take];rfl)) ?_;(with_reducible refine (lockkeeperref3_Behind.calls k a0 t215 _ A5.out).mono ?_);rintro e w' ⟨rfl,⟨nd,rfl⟩⟩;refine ⟨_,rfl,?_⟩;(try (rw [drewN_self w17];generalize hq_ : World.drewN w17 _ = w17;have n0_ : Aside0 (w17.heap[gb214]? = some (.cells #[.string (⟨#[]⟩ : ByteArray),.string (⟨#[]⟩ : ByteArray),.int .i64 0] 23 (0,0))):=⟨by rw [← hq_];exact (by (with_reducible repeat (first|refine blk_drewN ?_ _|refine blk_drew ?_|refine blk_alloc ?_ _));exact BK214.out)⟩;have n1_ : Aside0 (Below w.heap.size w w17):=⟨by rw [← hq_];exact (by repeat (first|(with_reducible first|exact HB.out|apply below_alloc|apply pw_below_drewN|apply below_drew1|refine below_set ?_ GE214.out)|exact HB.out))⟩;clear BK214 HB hq_;have BK214:=n0_;have HB:=n1_;clear n0_ n1_)))|((with_reducible refine gate_callee (f:=47) rfl ?_);refine goesL_ (some 22) rfl rfl Tryd.func47 (by kernel_rfl) rfl #[.string (a0.extract 0 (t215 : Int).toNat)] rfl (by (try simp only [List.map_toArray,List.map_cons,List.map_nil]);first|done|rfl|(simp only [List.length_drop,List.length_take];rfl)) ?_;(with_reducible refine (lockkeeperref1_Lower.calls (a0.extract 0 (t215 : Int).toNat) t216 _ A11.out).mono ?_);rintro e w18 ⟨rfl,hb⟩;refine ⟨_,rfl,?_⟩;have n0_:=Aside0.mk (blk_below (g:=gb214) (o:=.cells #[.string (⟨#[]⟩ : ByteArray),.string (⟨#[]⟩ : ByteArray),.int .i64 0] 23 (0,0)) (by (with_reducible repeat (first|refine blk_drewN ?_ _|refine blk_drew ?_|refine blk_alloc ?_ _));exact BK214.out) hb);have n1_:=Aside0.mk (below_step (by repeat (first|(with_reducible first|exact HB.out|apply below_alloc|apply pw_below_drewN|apply below_drew1|refine below_set ?_ GE214.out)|exact HB.out)) hb);clear BK214;clear HB;have BK214:=n0_;have HB:=n1_;clear n0_ n1_;(try clear hb);(try clear hb2);(try clear hk);(try clear hi))|((with_reducible refine gate_dst (N:=5) rfl ?_);refine box_event ?hg (N:=5) ?hd (cs:=#[.string (⟨#[]⟩ : ByteArray),.string (⟨#[]⟩ : ByteArray),.int .i64 0]) (t:=23) ?hr ?_;(case hd => rfl);(case hg => rfl);(case hr => first|(go_simp;done)|(go_simp;rfl));intro gb217 hg w19 hbox hb;have n0_:=Aside0.mk (blk_below (g:=gb214) (o:=.cells #[.string (⟨#[]⟩ : ByteArray),.string (⟨#[]⟩ : ByteArray),.int .i64 0] 23 (0,0)) (by (with_reducible repeat (first|refine blk_drewN ?_ _|refine blk_drew ?_|refine blk_alloc ?_ _));exact BK214.out) hb);have n1_:=Aside0.mk (below_step (by repeat (first|(with_reducible first|exact HB.out|apply below_alloc|apply pw_below_drewN|apply below_drew1|refine below_set ?_ GE214.out)|exact HB.out)) hb);have n2_:=Aside0.mk (hbox);have n3_:=Aside0.mk ((by rw [hg];exact (below_size (by repeat (first|(with_reducible first|exact HB.out|apply below_alloc|apply pw_below_drewN|apply below_drew1|refine below_set ?_ GE214.out)|exact HB.out))) : w.heap.size ≤ gb217));have n4_:=Aside0.mk ((by rw [hg];exact (below_size (by repeat (first|(with_reducible first|exact HB.out|apply below_alloc|apply pw_below_drewN|apply below_drew1|refine below_set ?_ GE214.out)|exact HB.out))) : w.heap.size ≤ gb217));have n5_:=Aside0.mk ((by rw [hg];exact Nat.ne_of_lt (blk_lt (g:=gb214) (o:=.cells #[.string (⟨#[]⟩ : ByteArray),.string (⟨#[]⟩ : ByteArray),.int .i64 0] 23 (0,0)) (by (with_reducible repeat (first|refine blk_drewN ?_ _|refine blk_drew ?_|refine blk_alloc ?_ _));exact BK214.out)) : gb214 ≠ gb217));have n6_:=Aside0.mk ((by rw [hg];exact Nat.ne_of_gt (blk_lt (g:=gb214) (o:=.cells #[.string (⟨#[]⟩ : ByteArray),.string (⟨#[]⟩ : ByteArray),.int .i64 0] 23 (0,0)) (by (with_reducible repeat (first|refine blk_drewN ?_ _|refine blk_drew ?_|refine blk_alloc ?_ _));exact BK214.out)) : gb217 ≠ gb214));clear BK214;clear HB;have BK214:=n0_;have HB:=n1_;have BK217:=n2_;have GW217:=n3_;have GE217:=n4_;have NB214_217:=n5_;have NB217_214:=n6_;clear n0_ n1_ n2_ n3_ n4_ n5_ n6_;clear hb hbox hg;have hnb20:=NB217_214.out;have hnc20:=NB214_217.out;have hcz21_0 : w19.cell? ⟨gb217,0,none⟩ = some (.string (⟨#[]⟩ : ByteArray)):=(blk_cell BK217.out 0).trans rfl;have hcz21_1 : w19.cell? ⟨gb217,1,none⟩ = some (.string (⟨#[]⟩ : ByteArray)):=(blk_cell BK217.out 1).trans rfl;have hcz21_2 : w19.cell? ⟨gb217,2,none⟩ = some (.int .i64 0):=(blk_cell BK217.out 2).trans rfl;have hfz21_0:=blk_frozen BK217.out 0;have hfz21_1:=blk_frozen BK217.out 1;have hfz21_2:=blk_frozen BK217.out 2)|((with_reducible refine gate_callee (f:=28) rfl ?_);refine goesL_ (some 30) rfl rfl Tryd.func28 (by kernel_rfl) rfl #[.string t216] rfl (by (try simp only [List.map_toArray,List.map_cons,List.map_nil]);first|done|rfl|(simp only [List.length_drop,List.length_take];rfl)) ?_;(with_reducible refine (lockkeeperref3_Default.calls t216 t218 _ A15.out).mono ?_);rintro e w' ⟨rfl,⟨nd,rfl⟩⟩;refine ⟨_,rfl,?_⟩))
       (try simp only [Act.put,List.setIfInBounds_toArray,List.set_cons_zero,List.set_cons_succ])
       go_cut [6] (fun v6 wc => ∃ (kq : Nat) (x6_15 : ByteArray) (x215000_15 : ByteArray) (x215001_15 : ByteArray) (x215002_15 : Int) (x218002_15 : Int),v6 = .string x6_15 ∧ Aside0 (lockkeeperref3_Parse.j1 kq x6_15 t216 (⟨#[]⟩ : ByteArray) x218002_15 = some (r1,r2,r3,r4)) ∧ Aside0 (kq ≤ k) ∧ Aside0 (wc.heap[gb214]? = some (.cells #[.string x215000_15,.string x215001_15,.int .i64 x215002_15] 23 (0,0))) ∧ Aside0 (wc.heap[gb217]? = some (.cells #[.string t216,.string (⟨#[]⟩ : ByteArray),.int .i64 x218002_15] 23 (0,0))) ∧ Aside0 (Below w.heap.size w wc))
       case first =>
        have H:=HC16.out
        clear HC16
        have H':=Aside0.mk H
        clear H
        go_wp2
        go_loopg [6,7] k (fun kq v6 v7 w' => ∃ (x6_1 : ByteArray) (x7_1 : Int) (x215000_1 : ByteArray) (x215001_1 : ByteArray) (x215002_1 : Int) (x218002_1 : Int),v6 = .string x6_1 ∧ v7 = .int .i64 x7_1 ∧ Aside0 (lockkeeperref3_Parse.l0 kq x6_1 x7_1 t216 (⟨#[]⟩ : ByteArray) x218002_1 = some (r1,r2,r3,r4)) ∧ Aside0 (kq ≤ k) ∧ Aside0 (w'.heap[gb214]? = some (.cells #[.string x215000_1,.string x215001_1,.int .i64 x215002_1] 23 (0,0))) ∧ Aside0 (w'.heap[gb217]? = some (.cells #[.string t216,.string (⟨#[]⟩ : ByteArray),.int .i64 x218002_1] 23 (0,0))) ∧ Aside0 (Below w.heap.size w w'))
        case atStart => exact ⟨(a0.extract ((ji12) : Int).toNat a0.size),(0),((⟨#[]⟩ : ByteArray)),((⟨#[]⟩ : ByteArray)),(0),(t218),(by first|rfl|(simp;done)|(simp only [← hji12] <;> (first|rfl|simp))|(simp [*];done)),(by first|rfl|(simp;done)|(simp [*];done)),H',⟨Nat.le_refl _⟩,⟨by (with_reducible repeat (first|refine blk_drewN ?_ _|refine blk_drew ?_|refine blk_alloc ?_ _));refine blk_far ?_ NB214_217.out _;(with_reducible repeat (first|refine blk_drewN ?_ _|refine blk_drew ?_|refine blk_alloc ?_ _));refine blk_far ?_ NB214_217.out _;(with_reducible repeat (first|refine blk_drewN ?_ _|refine blk_drew ?_|refine blk_alloc ?_ _));refine blk_far ?_ NB214_217.out _;(with_reducible repeat (first|refine blk_drewN ?_ _|refine blk_drew ?_|refine blk_alloc ?_ _));refine blk_far ?_ NB214_217.out _;(with_reducible repeat (first|refine blk_drewN ?_ _|refine blk_drew ?_|refine blk_alloc ?_ _));exact BK214.out⟩,⟨by (with_reducible repeat (first|refine blk_drewN ?_ _|refine blk_drew ?_|refine blk_alloc ?_ _));refine blk_put (cs:=#[.string t216,.string (⟨#[]⟩ : ByteArray),.int .i64 0]) ?_ 2 _ rfl;(with_reducible repeat (first|refine blk_drewN ?_ _|refine blk_drew ?_|refine blk_alloc ?_ _));refine blk_put (cs:=#[.string t216,.string (⟨#[]⟩ : ByteArray),.int .i64 0]) ?_ 2 _ rfl;(with_reducible repeat (first|refine blk_drewN ?_ _|refine blk_drew ?_|refine blk_alloc ?_ _));refine blk_put (cs:=#[.string t216,.string (⟨#[]⟩ : ByteArray),.int .i64 0]) ?_ 1 _ rfl;(with_reducible repeat (first|refine blk_drewN ?_ _|refine blk_drew ?_|refine blk_alloc ?_ _));refine blk_put (cs:=#[.string (⟨#[]⟩ : ByteArray),.string (⟨#[]⟩ : ByteArray),.int .i64 0]) ?_ 0 _ rfl;(with_reducible repeat (first|refine blk_drewN ?_ _|refine blk_drew ?_|refine blk_alloc ?_ _));exact BK217.out⟩,⟨by repeat (first|(with_reducible first|exact HB.out|apply below_alloc|apply pw_below_drewN|apply below_drew1|refine below_set ?_ GE214.out|refine below_set ?_ GE217.out)|exact HB.out)⟩⟩
        case round =>
         clear H'
         try clear c1
         try clear c2
         try clear c2b0
         try clear c2b1
         try clear p2
         try clear c4
         try clear c6
         try clear c6b0
         try clear p6
         try clear c9
         try clear c9b0
         try clear c9b1
         try clear c10
         try clear c10b0
         try clear c10b1
         try clear c13
         try clear c13b0
         try clear c13b1
         try clear c14
         try clear c14b0
         try clear c14b1
         try clear c20
         try clear hcz21_0
         try clear hcz21_1
         try clear hcz21_2
         try clear hcz4_0
         try clear hcz4_1
         try clear hcz4_2
         try clear hcz8_0
         try clear hcz8_1
         try clear hcz8_2
         try clear hfz21_0
         try clear hfz21_1
         try clear hfz21_2
         try clear hfz4_0
         try clear hfz4_1
         try clear hfz4_2
         try clear hfz8_0
         try clear hfz8_1
         try clear hfz8_2
         obtain ⟨x6_1,x7_1,x215000_1,x215001_1,x215002_1,x218002_1,rfl,rfl,HA,HK1,BK214,BK217,HB⟩:=hrel
         cases gk with
         | zero => exact absurd HA.out (by simp [lockkeeperref3_Parse.l0])
         | succ k1 =>
          have H:=HA.out
          clear HA
          simp only [lockkeeperref3_Parse.l0] at H
          by_cases c22 : x7_1 < (x6_1.size : Int)
          ·rw [if_pos c22] at H
           have c22b0 : decide (x7_1 < (x6_1.size : Int)) = true:=decide_eq_true c22
           clear c22
           (first|rw [c22b0]|(simp only [i64_w,i32_w];rw [c22b0])|skip)
           by_cases c23 : 0 ≤ x7_1
           ·rw [if_pos c23] at H
            have c23b0 : decide (0 ≤ x7_1) = true:=decide_eq_true c23
            clear c23
            by_cases c25 : (bt x6_1 x7_1) = 58
            ·rw [if_pos c25] at H
             have c25b0 : ((bt x6_1 x7_1) == 58) = true:=beq_iff_eq.mpr c25
             have c25b1 : ((bt x6_1 x7_1) != 58) = false:=bne_eq_false_iff_eq.mpr c25
             clear c25
             obtain ⟨ji26,hji26⟩ : ∃ j_ : Int,(wrap64 (x7_1 + 1)) = j_:=⟨_,rfl⟩
             replace H : (if 0 ≤ (ji26) then (if (ji26) ≤ (x6_1.size : Int) then ((lockkeeperref1_Count.f k1 (x6_1.extract ((ji26) : Int).toNat x6_1.size) 65535).bind fun bt219 => (if bt219.2 = true then (if bt219.1 < 1 then (some ((⟨#[]⟩ : ByteArray),(⟨#[]⟩ : ByteArray),0,3)) else (if x7_1 ≤ (x6_1.size : Int) then (lockkeeperref3_Parse.j1 k1 (x6_1.extract 0 (x7_1 : Int).toNat) t216 (⟨#[]⟩ : ByteArray) (wrap64 (bt219.1))) else (none))) else (some ((⟨#[]⟩ : ByteArray),(⟨#[]⟩ : ByteArray),0,3)))) else (none)) else (none)) = some (r1,r2,r3,r4):=by first|(rw [hji26] at H;exact H)|(simp only [hji26] at H ⊢;exact H)
             have hji26w : (IntKind.i64.wrap (x7_1 + 1)) = ji26:=(i64_w _).trans hji26
             by_cases c27 : 0 ≤ (ji26)
             ·rw [if_pos c27] at H
              have c27b0:=eq_true c27
              have c27b1 : decide (0 ≤ (ji26)) = true:=decide_eq_true c27
              clear c27
              by_cases c28 : (ji26) ≤ (x6_1.size : Int)
              ·rw [if_pos c28] at H
               have c28b0:=eq_true c28
               have c28b1 : decide ((ji26) ≤ (x6_1.size : Int)) = true:=decide_eq_true c28
               clear c28
               replace H:=Option.bind_eq_some_iff.mp H
               obtain ⟨⟨t219,t220⟩,A290,H⟩:=H
               replace H : (if t220 = true then (if t219 < 1 then (some ((⟨#[]⟩ : ByteArray),(⟨#[]⟩ : ByteArray),0,3)) else (if x7_1 ≤ (x6_1.size : Int) then (lockkeeperref3_Parse.j1 k1 (x6_1.extract 0 (x7_1 : Int).toNat) t216 (⟨#[]⟩ : ByteArray) (wrap64 (t219))) else (none))) else (some ((⟨#[]⟩ : ByteArray),(⟨#[]⟩ : ByteArray),0,3))) = some (r1,r2,r3,r4):=H
               have A29:=Aside0.mk A290
               clear A290
               by_cases c30 : t220 = true
               ·subst c30
                have H1 : (if t219 < 1 then (some ((⟨#[]⟩ : ByteArray),(⟨#[]⟩ : ByteArray),0,3)) else (if x7_1 ≤ (x6_1.size : Int) then (lockkeeperref3_Parse.j1 k1 (x6_1.extract 0 (x7_1 : Int).toNat) t216 (⟨#[]⟩ : ByteArray) (wrap64 (t219))) else (none))) = some (r1,r2,r3,r4):=by rw [if_pos rfl] at H;exact H
                clear H
                have H:=H1
                clear H1
                by_cases c31 : t219 < 1
                ·rw [if_pos c31] at H
                 have c31b0 : decide (t219 < 1) = true:=decide_eq_true c31
                 clear c31
                 simp only [Option.some.injEq,Prod.mk.injEq] at H
                 obtain ⟨rfl,rfl,rfl,rfl⟩:=H
                 have p24 : 0 ≤ (x7_1 : Int):=of_decide_eq_true (by first|(with_reducible assumption)|assumption)
                 have q24 : x7_1 < (x6_1.size : Int):=of_decide_eq_true (by first|(with_reducible assumption)|assumption)
                 have hx24:=bt_at x6_1 x7_1
                 replace p24:=eq_true p24
                 replace q24:=eq_true q24
                 go_wp2_with (first|((with_reducible refine gate_callee (f:=48) rfl ?_);refine goesL_ (some 47) rfl rfl Tryd.func48 (by kernel_rfl) rfl #[.string (x6_1.extract ((ji26) : Int).toNat x6_1.size),.int .u64 65535] rfl (by (try simp only [List.map_toArray,List.map_cons,List.map_nil]);first|done|(simp only [hji26];rfl)|rfl|(simp only [List.length_drop,List.length_take];rfl)) ?_;(with_reducible refine (lockkeeperref1_Count.calls k1 (x6_1.extract ((ji26) : Int).toNat x6_1.size) 65535 t219 true _ A29.out).mono ?_);rintro e w' ⟨rfl,⟨nd,rfl⟩⟩;refine ⟨_,rfl,?_⟩;(try (rw [drewN_self wr];generalize hq_ : World.drewN wr _ = wr;have n0_ : Aside0 (wr.heap[gb214]? = some (.cells #[.string x215000_1,.string x215001_1,.int .i64 x215002_1] 23 (0,0))):=⟨by rw [← hq_];exact (by (with_reducible repeat (first|refine blk_drewN ?_ _|refine blk_drew ?_|refine blk_alloc ?_ _));exact BK214.out)⟩;have n1_ : Aside0 (wr.heap[gb217]? = some (.cells #[.string t216,.string (⟨#[]⟩ : ByteArray),.int .i64 x218002_1] 23 (0,0))):=⟨by rw [← hq_];exact (by (with_reducible repeat (first|refine blk_drewN ?_ _|refine blk_drew ?_|refine blk_alloc ?_ _));exact BK217.out)⟩;have n2_ : Aside0 (Below w.heap.size w wr):=⟨by rw [← hq_];exact (by repeat (first|(with_reducible first|exact HB.out|apply below_alloc|apply pw_below_drewN|apply below_drew1|refine below_set ?_ GE214.out|refine below_set ?_ GE217.out)|exact HB.out))⟩;clear BK214 BK217 HB hq_;have BK214:=n0_;have BK217:=n1_;have HB:=n2_;clear n0_ n1_ n2_));have hnb32:=NB214_217.out;have hnc32:=NB217_214.out;have hcz33_0 : wr.cell? ⟨gb214,0,none⟩ = some (.string x215000_1):=(blk_cell BK214.out 0).trans rfl;have hcz33_1 : wr.cell? ⟨gb214,1,none⟩ = some (.string x215001_1):=(blk_cell BK214.out 1).trans rfl;have hcz33_2 : wr.cell? ⟨gb214,2,none⟩ = some (.int .i64 x215002_1):=(blk_cell BK214.out 2).trans rfl;have hfz33_0:=blk_frozen BK214.out 0;have hfz33_1:=blk_frozen BK214.out 1;have hfz33_2:=blk_frozen BK214.out 2))
                 refine bodyPost_ret (results_ct rfl _ _ gb214 23 #[.string (⟨#[]⟩ : ByteArray),.string (⟨#[]⟩ : ByteArray),.int .i64 0] (0,0) _ rfl (by (with_reducible repeat (first|refine blk_drewN ?_ _|refine blk_drew ?_|refine blk_alloc ?_ _));refine blk_put (cs:=#[.string (⟨#[]⟩ : ByteArray),.string (⟨#[]⟩ : ByteArray),.int .i64 x215002_1]) ?_ 2 _ rfl;(with_reducible repeat (first|refine blk_drewN ?_ _|refine blk_drew ?_|refine blk_alloc ?_ _));refine blk_put (cs:=#[.string (⟨#[]⟩ : ByteArray),.string x215001_1,.int .i64 x215002_1]) ?_ 1 _ rfl;(with_reducible repeat (first|refine blk_drewN ?_ _|refine blk_drew ?_|refine blk_alloc ?_ _));refine blk_put (cs:=#[.string x215000_1,.string x215001_1,.int .i64 x215002_1]) ?_ 0 _ rfl;(with_reducible repeat (first|refine blk_drewN ?_ _|refine blk_drew ?_|refine blk_alloc ?_ _));exact BK214.out) Tryd.underlying23 rfl (by kernel_rfl)) rfl ?_
                 exact ⟨by first|rfl|(simp [errW_none,errW_some] <;> rfl)|(simp only [← hji12,← hji26];first|rfl|(simp [errW_none,errW_some] <;> rfl))|(simp [*,errW_none,errW_some] <;> rfl),by repeat (first|(with_reducible first|exact HB.out|apply below_alloc|apply pw_below_drewN|apply below_drew1|refine below_set ?_ GE214.out|refine below_set ?_ GE217.out)|exact HB.out)⟩
                ·rw [if_neg c31] at H
                 have c31b0 : decide (t219 < 1) = false:=decide_eq_false c31
                 clear c31
                 have c34b0:=eq_true (of_decide_eq_true (by first|(with_reducible assumption)|assumption) : 0 ≤ x7_1)
                 by_cases c35 : x7_1 ≤ (x6_1.size : Int)
                 ·rw [if_pos c35] at H
                  have c35b0:=eq_true c35
                  have c35b1 : decide (x7_1 ≤ (x6_1.size : Int)) = true:=decide_eq_true c35
                  clear c35
                  have H':=Aside0.mk H
                  clear H
                  have p24 : 0 ≤ (x7_1 : Int):=of_decide_eq_true (by first|(with_reducible assumption)|assumption)
                  have q24 : x7_1 < (x6_1.size : Int):=of_decide_eq_true (by first|(with_reducible assumption)|assumption)
                  have hx24:=bt_at x6_1 x7_1
                  replace p24:=eq_true p24
                  replace q24:=eq_true q24
                  go_wp2_with (first|((with_reducible refine gate_callee (f:=48) rfl ?_);refine goesL_ (some 47) rfl rfl Tryd.func48 (by kernel_rfl) rfl #[.string (x6_1.extract ((ji26) : Int).toNat x6_1.size),.int .u64 65535] rfl (by (try simp only [List.map_toArray,List.map_cons,List.map_nil]);first|done|(simp only [hji26];rfl)|rfl|(simp only [List.length_drop,List.length_take];rfl)) ?_;(with_reducible refine (lockkeeperref1_Count.calls k1 (x6_1.extract ((ji26) : Int).toNat x6_1.size) 65535 t219 true _ A29.out).mono ?_);rintro e w' ⟨rfl,⟨nd,rfl⟩⟩;refine ⟨_,rfl,?_⟩;(try (rw [drewN_self wr];generalize hq_ : World.drewN wr _ = wr;have n0_ : Aside0 (wr.heap[gb214]? = some (.cells #[.string x215000_1,.string x215001_1,.int .i64 x215002_1] 23 (0,0))):=⟨by rw [← hq_];exact (by (with_reducible repeat (first|refine blk_drewN ?_ _|refine blk_drew ?_|refine blk_alloc ?_ _));exact BK214.out)⟩;have n1_ : Aside0 (wr.heap[gb217]? = some (.cells #[.string t216,.string (⟨#[]⟩ : ByteArray),.int .i64 x218002_1] 23 (0,0))):=⟨by rw [← hq_];exact (by (with_reducible repeat (first|refine blk_drewN ?_ _|refine blk_drew ?_|refine blk_alloc ?_ _));exact BK217.out)⟩;have n2_ : Aside0 (Below w.heap.size w wr):=⟨by rw [← hq_];exact (by repeat (first|(with_reducible first|exact HB.out|apply below_alloc|apply pw_below_drewN|apply below_drew1|refine below_set ?_ GE214.out|refine below_set ?_ GE217.out)|exact HB.out))⟩;clear BK214 BK217 HB hq_;have BK214:=n0_;have BK217:=n1_;have HB:=n2_;clear n0_ n1_ n2_));have hnb36:=NB217_214.out;have hnc36:=NB214_217.out;have hcz37_0 : wr.cell? ⟨gb217,0,none⟩ = some (.string t216):=(blk_cell BK217.out 0).trans rfl;have hcz37_1 : wr.cell? ⟨gb217,1,none⟩ = some (.string (⟨#[]⟩ : ByteArray)):=(blk_cell BK217.out 1).trans rfl;have hcz37_2 : wr.cell? ⟨gb217,2,none⟩ = some (.int .i64 x218002_1):=(blk_cell BK217.out 2).trans rfl;have hfz37_0:=blk_frozen BK217.out 0;have hfz37_1:=blk_frozen BK217.out 1;have hfz37_2:=blk_frozen BK217.out 2))
                  go_meet
                  case rel => exact ⟨_,(x6_1.extract 0 (x7_1 : Int).toNat),(x215000_1),(x215001_1),(x215002_1),(wrap64 (t219)),(by first|rfl|(simp;done)|(simp [*];done)),H',⟨by have:=HK1.out;first|omega|exact Nat.le_refl _⟩,⟨by (with_reducible repeat (first|refine blk_drewN ?_ _|refine blk_drew ?_|refine blk_alloc ?_ _));refine blk_far ?_ NB214_217.out _;(with_reducible repeat (first|refine blk_drewN ?_ _|refine blk_drew ?_|refine blk_alloc ?_ _));exact BK214.out⟩,⟨by (with_reducible repeat (first|refine blk_drewN ?_ _|refine blk_drew ?_|refine blk_alloc ?_ _));refine blk_put (cs:=#[.string t216,.string (⟨#[]⟩ : ByteArray),.int .i64 x218002_1]) ?_ 2 _ rfl;(with_reducible repeat (first|refine blk_drewN ?_ _|refine blk_drew ?_|refine blk_alloc ?_ _));exact BK217.out⟩,⟨by repeat (first|(with_reducible first|exact HB.out|apply below_alloc|apply pw_below_drewN|apply below_drew1|refine below_set ?_ GE214.out|refine below_set ?_ GE217.out)|exact HB.out)⟩⟩
                 ·rw [if_neg c35] at H
                  exact absurd H (by simp)
               ·replace c30:=Bool.eq_false_iff.mpr c30
                subst c30
                have H1 : (some ((⟨#[]⟩ : ByteArray),(⟨#[]⟩ : ByteArray),0,3)) = some (r1,r2,r3,r4):=by rw [if_neg (show ¬ (false = true) by decide)] at H;exact H
                clear H
                have H:=H1
                clear H1
                simp only [Option.some.injEq,Prod.mk.injEq] at H
                obtain ⟨rfl,rfl,rfl,rfl⟩:=H
                have p24 : 0 ≤ (x7_1 : Int):=of_decide_eq_true (by first|(with_reducible assumption)|assumption)
                have q24 : x7_1 < (x6_1.size : Int):=of_decide_eq_true (by first|(with_reducible assumption)|assumption)
                have hx24:=bt_at x6_1 x7_1
                replace p24:=eq_true p24
                replace q24:=eq_true q24
                go_wp2_with (first|((with_reducible refine gate_callee (f:=48) rfl ?_);refine goesL_ (some 47) rfl rfl Tryd.func48 (by kernel_rfl) rfl #[.string (x6_1.extract ((ji26) : Int).toNat x6_1.size),.int .u64 65535] rfl (by (try simp only [List.map_toArray,List.map_cons,List.map_nil]);first|done|(simp only [hji26];rfl)|rfl|(simp only [List.length_drop,List.length_take];rfl)) ?_;(with_reducible refine (lockkeeperref1_Count.calls k1 (x6_1.extract ((ji26) : Int).toNat x6_1.size) 65535 t219 false _ A29.out).mono ?_);rintro e w' ⟨rfl,⟨nd,rfl⟩⟩;refine ⟨_,rfl,?_⟩;(try (rw [drewN_self wr];generalize hq_ : World.drewN wr _ = wr;have n0_ : Aside0 (wr.heap[gb214]? = some (.cells #[.string x215000_1,.string x215001_1,.int .i64 x215002_1] 23 (0,0))):=⟨by rw [← hq_];exact (by (with_reducible repeat (first|refine blk_drewN ?_ _|refine blk_drew ?_|refine blk_alloc ?_ _));exact BK214.out)⟩;have n1_ : Aside0 (wr.heap[gb217]? = some (.cells #[.string t216,.string (⟨#[]⟩ : ByteArray),.int .i64 x218002_1] 23 (0,0))):=⟨by rw [← hq_];exact (by (with_reducible repeat (first|refine blk_drewN ?_ _|refine blk_drew ?_|refine blk_alloc ?_ _));exact BK217.out)⟩;have n2_ : Aside0 (Below w.heap.size w wr):=⟨by rw [← hq_];exact (by repeat (first|(with_reducible first|exact HB.out|apply below_alloc|apply pw_below_drewN|apply below_drew1|refine below_set ?_ GE214.out|refine below_set ?_ GE217.out)|exact HB.out))⟩;clear BK214 BK217 HB hq_;have BK214:=n0_;have BK217:=n1_;have HB:=n2_;clear n0_ n1_ n2_));have hnb38:=NB214_217.out;have hnc38:=NB217_214.out;have hcz39_0 : wr.cell? ⟨gb214,0,none⟩ = some (.string x215000_1):=(blk_cell BK214.out 0).trans rfl;have hcz39_1 : wr.cell? ⟨gb214,1,none⟩ = some (.string x215001_1):=(blk_cell BK214.out 1).trans rfl;have hcz39_2 : wr.cell? ⟨gb214,2,none⟩ = some (.int .i64 x215002_1):=(blk_cell BK214.out 2).trans rfl;have hfz39_0:=blk_frozen BK214.out 0;have hfz39_1:=blk_frozen BK214.out 1;have hfz39_2:=blk_frozen BK214.out 2))
                refine bodyPost_ret (results_ct rfl _ _ gb214 23 #[.string (⟨#[]⟩ : ByteArray),.string (⟨#[]⟩ : ByteArray),.int .i64 0] (0,0) _ rfl (by (with_reducible repeat (first|refine blk_drewN ?_ _|refine blk_drew ?_|refine blk_alloc ?_ _));refine blk_put (cs:=#[.string (⟨#[]⟩ : ByteArray),.string (⟨#[]⟩ : ByteArray),.int .i64 x215002_1]) ?_ 2 _ rfl;(with_reducible repeat (first|refine blk_drewN ?_ _|refine blk_drew ?_|refine blk_alloc ?_ _));refine blk_put (cs:=#[.string (⟨#[]⟩ : ByteArray),.string x215001_1,.int .i64 x215002_1]) ?_ 1 _ rfl;(with_reducible repeat (first|refine blk_drewN ?_ _|refine blk_drew ?_|refine blk_alloc ?_ _));refine blk_put (cs:=#[.string x215000_1,.string x215001_1,.int .i64 x215002_1]) ?_ 0 _ rfl;(with_reducible repeat (first|refine blk_drewN ?_ _|refine blk_drew ?_|refine blk_alloc ?_ _));exact BK214.out) Tryd.underlying23 rfl (by kernel_rfl)) rfl ?_
                exact ⟨by first|rfl|(simp [errW_none,errW_some] <;> rfl)|(simp only [← hji12,← hji26];first|rfl|(simp [errW_none,errW_some] <;> rfl))|(simp [*,errW_none,errW_some] <;> rfl),by repeat (first|(with_reducible first|exact HB.out|apply below_alloc|apply pw_below_drewN|apply below_drew1|refine below_set ?_ GE214.out|refine below_set ?_ GE217.out)|exact HB.out)⟩
              ·rw [if_neg c28] at H
               exact absurd H (by simp)
             ·rw [if_neg c27] at H
              exact absurd H (by simp)
            ·rw [if_neg c25] at H
             have c25b0 : ((bt x6_1 x7_1) == 58) = false:=beq_eq_false_iff_ne.mpr c25
             have c25b1 : ((bt x6_1 x7_1) != 58) = true:=bne_iff_ne.mpr c25
             have H':=Aside0.mk H
             clear H
             have p24 : 0 ≤ (x7_1 : Int):=of_decide_eq_true (by first|(with_reducible assumption)|assumption)
             have q24 : x7_1 < (x6_1.size : Int):=of_decide_eq_true (by first|(with_reducible assumption)|assumption)
             have hx24:=bt_at x6_1 x7_1
             replace p24:=eq_true p24
             replace q24:=eq_true q24
             go_wp2
             go_roundg k1
             case measure => have:=HK1.out;omega
             case rel => exact ⟨(x6_1),(wrap64 (x7_1 + 1)),(x215000_1),(x215001_1),(x215002_1),(x218002_1),(by first|rfl|(simp;done)|(simp [*];done)),(by first|rfl|(simp;done)|(simp [*];done)),H',⟨by have:=HK1.out;omega⟩,⟨by (with_reducible repeat (first|refine blk_drewN ?_ _|refine blk_drew ?_|refine blk_alloc ?_ _));exact BK214.out⟩,⟨by (with_reducible repeat (first|refine blk_drewN ?_ _|refine blk_drew ?_|refine blk_alloc ?_ _));exact BK217.out⟩,⟨by repeat (first|(with_reducible first|exact HB.out|apply below_alloc|apply pw_below_drewN|apply below_drew1|refine below_set ?_ GE214.out|refine below_set ?_ GE217.out)|exact HB.out)⟩⟩
           ·rw [if_neg c23] at H
            exact absurd H (by simp)
          ·rw [if_neg c22] at H
           have c22b0 : decide (x7_1 < (x6_1.size : Int)) = false:=decide_eq_false c22
           clear c22
           (first|rw [c22b0]|(simp only [i64_w,i32_w];rw [c22b0])|skip)
           have H':=Aside0.mk H
           clear H
           go_wp2
           go_meet
           case rel => exact ⟨_,(x6_1),(x215000_1),(x215001_1),(x215002_1),(x218002_1),(by first|rfl|(simp;done)|(simp [*];done)),H',⟨by have:=HK1.out;first|omega|exact Nat.le_refl _⟩,⟨by (with_reducible repeat (first|refine blk_drewN ?_ _|refine blk_drew ?_|refine blk_alloc ?_ _));exact BK214.out⟩,⟨by (with_reducible repeat (first|refine blk_drewN ?_ _|refine blk_drew ?_|refine blk_alloc ?_ _));exact BK217.out⟩,⟨by repeat (first|(with_reducible first|exact HB.out|apply below_alloc|apply pw_below_drewN|apply below_drew1|refine below_set ?_ GE214.out|refine below_set ?_ GE217.out)|exact HB.out)⟩⟩
       case rest =>
        clear HC16
        try clear c1
        try clear c2
        try clear c2b0
        try clear c2b1
        try clear p2
        try clear q2
        try clear hx2
        try clear c3
        try clear c4
        try clear c6
        try clear c6b0
        try clear p6
        try clear c9
        try clear c9b0
        try clear c9b1
        try clear c10
        try clear c10b0
        try clear c10b1
        try clear c13
        try clear c13b0
        try clear c13b1
        try clear c14
        try clear c14b0
        try clear c14b1
        try clear c20
        try clear c22
        try clear c22b0
        try clear c23
        try clear c23b0
        try clear p24
        try clear q24
        try clear hx24
        try clear c25
        try clear c25b0
        try clear c25b1
        try clear c27
        try clear c27b0
        try clear c27b1
        try clear c28
        try clear c28b0
        try clear c28b1
        try clear c30
        try clear c31
        try clear c31b0
        try clear c32
        try clear c34
        try clear c34b0
        try clear c35
        try clear c35b0
        try clear c35b1
        try clear c36
        try clear c38
        try clear hcz21_0
        try clear hcz21_1
        try clear hcz21_2
        try clear hcz33_0
        try clear hcz33_1
        try clear hcz33_2
        try clear hcz37_0
        try clear hcz37_1
        try clear hcz37_2
        try clear hcz39_0
        try clear hcz39_1
        try clear hcz39_2
        try clear hcz4_0
        try clear hcz4_1
        try clear hcz4_2
        try clear hcz8_0
        try clear hcz8_1
        try clear hcz8_2
        try clear hfz21_0
        try clear hfz21_1
        try clear hfz21_2
        try clear hfz33_0
        try clear hfz33_1
        try clear hfz33_2
        try clear hfz37_0
        try clear hfz37_1
        try clear hfz37_2
        try clear hfz39_0
        try clear hfz39_1
        try clear hfz39_2
        try clear hfz4_0
        try clear hfz4_1
        try clear hfz4_2
        try clear hfz8_0
        try clear hfz8_1
        try clear hfz8_2
        try clear p2
        try clear p24
        try clear p6
        try clear q24
        obtain ⟨kq,x6_15,x215000_15,x215001_15,x215002_15,x218002_15,rfl,HA,HJ15,BK214,BK217,HB⟩:=hcut
        cases kq with
        | zero => exact absurd HA.out (by simp [lockkeeperref3_Parse.j1])
        | succ kj15 =>
         have H:=HA.out
         clear HA
         simp only [lockkeeperref3_Parse.j1] at H
         replace H:=Option.bind_eq_some_iff.mp H
         obtain ⟨t221,A400,H⟩:=H
         replace H : ((lockkeeperref3_Check.f kj15 t216 t221 x218002_15).bind fun t222 => (if t222 = true then (some (t216,t221,x218002_15,0)) else (some ((⟨#[]⟩ : ByteArray),(⟨#[]⟩ : ByteArray),0,3)))) = some (r1,r2,r3,r4):=H
         have A40:=Aside0.mk A400
         clear A400
         replace H:=Option.bind_eq_some_iff.mp H
         obtain ⟨t222,A410,H⟩:=H
         replace H : (if t222 = true then (some (t216,t221,x218002_15,0)) else (some ((⟨#[]⟩ : ByteArray),(⟨#[]⟩ : ByteArray),0,3))) = some (r1,r2,r3,r4):=H
         have A41:=Aside0.mk A410
         clear A410
         by_cases c42 : t222 = true
         ·subst c42
          have H1 : (some (t216,t221,x218002_15,0)) = some (r1,r2,r3,r4):=by rw [if_pos rfl] at H;exact H
          clear H
          have H:=H1
          clear H1
          simp only [Option.some.injEq,Prod.mk.injEq] at H
          obtain ⟨rfl,rfl,rfl,rfl⟩:=H
          go_wp2_with (first|((with_reducible refine gate_callee (f:=47) rfl ?_);refine goesL_ (some 64) rfl rfl Tryd.func47 (by kernel_rfl) rfl #[.string x6_15] rfl (by (try simp only [List.map_toArray,List.map_cons,List.map_nil]);first|done|rfl|(simp only [List.length_drop,List.length_take];rfl)) ?_;(with_reducible refine (lockkeeperref1_Lower.calls x6_15 t221 _ A40.out).mono ?_);rintro e w43 ⟨rfl,hb⟩;refine ⟨_,rfl,?_⟩;have n0_:=Aside0.mk (blk_below (g:=gb214) (o:=.cells #[.string x215000_15,.string x215001_15,.int .i64 x215002_15] 23 (0,0)) (by (with_reducible repeat (first|refine blk_drewN ?_ _|refine blk_drew ?_|refine blk_alloc ?_ _));exact BK214.out) hb);have n1_:=Aside0.mk (blk_below (g:=gb217) (o:=.cells #[.string t216,.string (⟨#[]⟩ : ByteArray),.int .i64 x218002_15] 23 (0,0)) (by (with_reducible repeat (first|refine blk_drewN ?_ _|refine blk_drew ?_|refine blk_alloc ?_ _));exact BK217.out) hb);have n2_:=Aside0.mk (below_step (by repeat (first|(with_reducible first|exact HB.out|apply below_alloc|apply pw_below_drewN|apply below_drew1|refine below_set ?_ GE214.out|refine below_set ?_ GE217.out)|exact HB.out)) hb);clear BK214;clear BK217;clear HB;have BK214:=n0_;have BK217:=n1_;have HB:=n2_;clear n0_ n1_ n2_;(try clear hb);(try clear hb2);(try clear hk);(try clear hi);have hnb44:=NB217_214.out;have hnc44:=NB214_217.out;have hcz45_0 : w43.cell? ⟨gb217,0,none⟩ = some (.string t216):=(blk_cell BK217.out 0).trans rfl;have hcz45_1 : w43.cell? ⟨gb217,1,none⟩ = some (.string (⟨#[]⟩ : ByteArray)):=(blk_cell BK217.out 1).trans rfl;have hcz45_2 : w43.cell? ⟨gb217,2,none⟩ = some (.int .i64 x218002_15):=(blk_cell BK217.out 2).trans rfl;have hfz45_0:=blk_frozen BK217.out 0;have hfz45_1:=blk_frozen BK217.out 1;have hfz45_2:=blk_frozen BK217.out 2)|((with_reducible refine gate_callee (f:=22) rfl ?_);refine goesL_ (some 67) rfl rfl Tryd.func22 (by kernel_rfl) rfl #[.agg #[.string t216,.string t221,.int .i64 x218002_15]] rfl (by (try simp only [List.map_toArray,List.map_cons,List.map_nil]);first|done|rfl|(simp only [List.length_drop,List.length_take];rfl)) ?_;(with_reducible refine (lockkeeperref3_Check.calls kj15 t216 t221 x218002_15 true _ A41.out).mono ?_);rintro e w46 ⟨rfl,hb⟩;refine ⟨_,rfl,?_⟩;have n0_:=Aside0.mk (blk_below (g:=gb214) (o:=.cells #[.string x215000_15,.string x215001_15,.int .i64 x215002_15] 23 (0,0)) (by (with_reducible repeat (first|refine blk_drewN ?_ _|refine blk_drew ?_|refine blk_alloc ?_ _));refine blk_far ?_ NB214_217.out _;(with_reducible repeat (first|refine blk_drewN ?_ _|refine blk_drew ?_|refine blk_alloc ?_ _));exact BK214.out) hb);have n1_:=Aside0.mk (blk_below (g:=gb217) (o:=.cells #[.string t216,.string t221,.int .i64 x218002_15] 23 (0,0)) (by (with_reducible repeat (first|refine blk_drewN ?_ _|refine blk_drew ?_|refine blk_alloc ?_ _));refine blk_put (cs:=#[.string t216,.string (⟨#[]⟩ : ByteArray),.int .i64 x218002_15]) ?_ 1 _ rfl;(with_reducible repeat (first|refine blk_drewN ?_ _|refine blk_drew ?_|refine blk_alloc ?_ _));exact BK217.out) hb);have n2_:=Aside0.mk (below_step (by repeat (first|(with_reducible first|exact HB.out|apply below_alloc|apply pw_below_drewN|apply below_drew1|refine below_set ?_ GE214.out|refine below_set ?_ GE217.out)|exact HB.out)) hb);clear BK214;clear BK217;clear HB;have BK214:=n0_;have BK217:=n1_;have HB:=n2_;clear n0_ n1_ n2_;(try clear hb);(try clear hb2);(try clear hk);(try clear hi);have hcz47_0 : w46.cell? ⟨gb217,0,none⟩ = some (.string t216):=(blk_cell BK217.out 0).trans rfl;have hcz47_1 : w46.cell? ⟨gb217,1,none⟩ = some (.string t221):=(blk_cell BK217.out 1).trans rfl;have hcz47_2 : w46.cell? ⟨gb217,2,none⟩ = some (.int .i64 x218002_15):=(blk_cell BK217.out 2).trans rfl;have hfz47_0:=blk_frozen BK217.out 0;have hfz47_1:=blk_frozen BK217.out 1;have hfz47_2:=blk_frozen BK217.out 2;have hcz48_0 : w46.cell? ⟨gb214,0,none⟩ = some (.string x215000_15):=(blk_cell BK214.out 0).trans rfl;have hcz48_1 : w46.cell? ⟨gb214,1,none⟩ = some (.string x215001_15):=(blk_cell BK214.out 1).trans rfl;have hcz48_2 : w46.cell? ⟨gb214,2,none⟩ = some (.int .i64 x215002_15):=(blk_cell BK214.out 2).trans rfl;have hfz48_0:=blk_frozen BK214.out 0;have hfz48_1:=blk_frozen BK214.out 1;have hfz48_2:=blk_frozen BK214.out 2))
          refine bodyPost_ret (results_ct rfl _ _ gb214 23 #[.string t216,.string t221,.int .i64 x218002_15] (0,0) _ rfl (by (with_reducible repeat (first|refine blk_drewN ?_ _|refine blk_drew ?_|refine blk_alloc ?_ _));refine blk_put (cs:=#[.string t216,.string t221,.int .i64 x215002_15]) ?_ 2 _ rfl;(with_reducible repeat (first|refine blk_drewN ?_ _|refine blk_drew ?_|refine blk_alloc ?_ _));refine blk_put (cs:=#[.string t216,.string x215001_15,.int .i64 x215002_15]) ?_ 1 _ rfl;(with_reducible repeat (first|refine blk_drewN ?_ _|refine blk_drew ?_|refine blk_alloc ?_ _));refine blk_put (cs:=#[.string x215000_15,.string x215001_15,.int .i64 x215002_15]) ?_ 0 _ rfl;(with_reducible repeat (first|refine blk_drewN ?_ _|refine blk_drew ?_|refine blk_alloc ?_ _));exact BK214.out) Tryd.underlying23 rfl (by kernel_rfl)) rfl ?_
          exact ⟨by first|rfl|(simp [errW_none,errW_some] <;> rfl)|(simp only [← hji12];first|rfl|(simp [errW_none,errW_some] <;> rfl))|(simp [*,errW_none,errW_some] <;> rfl),by repeat (first|(with_reducible first|exact HB.out|apply below_alloc|apply pw_below_drewN|apply below_drew1|refine below_set ?_ GE214.out|refine below_set ?_ GE217.out)|exact HB.out)⟩
         ·replace c42:=Bool.eq_false_iff.mpr c42
          subst c42
          have H1 : (some ((⟨#[]⟩ : ByteArray),(⟨#[]⟩ : ByteArray),0,3)) = some (r1,r2,r3,r4):=by rw [if_neg (show ¬ (false = true) by decide)] at H;exact H
          clear H
          have H:=H1
          clear H1
          simp only [Option.some.injEq,Prod.mk.injEq] at H
          obtain ⟨rfl,rfl,rfl,rfl⟩:=H
          go_wp2_with (first|((with_reducible refine gate_callee (f:=47) rfl ?_);refine goesL_ (some 64) rfl rfl Tryd.func47 (by kernel_rfl) rfl #[.string x6_15] rfl (by (try simp only [List.map_toArray,List.map_cons,List.map_nil]);first|done|rfl|(simp only [List.length_drop,List.length_take];rfl)) ?_;(with_reducible refine (lockkeeperref1_Lower.calls x6_15 t221 _ A40.out).mono ?_);rintro e w49 ⟨rfl,hb⟩;refine ⟨_,rfl,?_⟩;have n0_:=Aside0.mk (blk_below (g:=gb214) (o:=.cells #[.string x215000_15,.string x215001_15,.int .i64 x215002_15] 23 (0,0)) (by (with_reducible repeat (first|refine blk_drewN ?_ _|refine blk_drew ?_|refine blk_alloc ?_ _));exact BK214.out) hb);have n1_:=Aside0.mk (blk_below (g:=gb217) (o:=.cells #[.string t216,.string (⟨#[]⟩ : ByteArray),.int .i64 x218002_15] 23 (0,0)) (by (with_reducible repeat (first|refine blk_drewN ?_ _|refine blk_drew ?_|refine blk_alloc ?_ _));exact BK217.out) hb);have n2_:=Aside0.mk (below_step (by repeat (first|(with_reducible first|exact HB.out|apply below_alloc|apply pw_below_drewN|apply below_drew1|refine below_set ?_ GE214.out|refine below_set ?_ GE217.out)|exact HB.out)) hb);clear BK214;clear BK217;clear HB;have BK214:=n0_;have BK217:=n1_;have HB:=n2_;clear n0_ n1_ n2_;(try clear hb);(try clear hb2);(try clear hk);(try clear hi);have hnb50:=NB217_214.out;have hnc50:=NB214_217.out;have hcz51_0 : w49.cell? ⟨gb217,0,none⟩ = some (.string t216):=(blk_cell BK217.out 0).trans rfl;have hcz51_1 : w49.cell? ⟨gb217,1,none⟩ = some (.string (⟨#[]⟩ : ByteArray)):=(blk_cell BK217.out 1).trans rfl;have hcz51_2 : w49.cell? ⟨gb217,2,none⟩ = some (.int .i64 x218002_15):=(blk_cell BK217.out 2).trans rfl;have hfz51_0:=blk_frozen BK217.out 0;have hfz51_1:=blk_frozen BK217.out 1;have hfz51_2:=blk_frozen BK217.out 2)|((with_reducible refine gate_callee (f:=22) rfl ?_);refine goesL_ (some 67) rfl rfl Tryd.func22 (by kernel_rfl) rfl #[.agg #[.string t216,.string t221,.int .i64 x218002_15]] rfl (by (try simp only [List.map_toArray,List.map_cons,List.map_nil]);first|done|rfl|(simp only [List.length_drop,List.length_take];rfl)) ?_;(with_reducible refine (lockkeeperref3_Check.calls kj15 t216 t221 x218002_15 false _ A41.out).mono ?_);rintro e w52 ⟨rfl,hb⟩;refine ⟨_,rfl,?_⟩;have n0_:=Aside0.mk (blk_below (g:=gb214) (o:=.cells #[.string x215000_15,.string x215001_15,.int .i64 x215002_15] 23 (0,0)) (by (with_reducible repeat (first|refine blk_drewN ?_ _|refine blk_drew ?_|refine blk_alloc ?_ _));refine blk_far ?_ NB214_217.out _;(with_reducible repeat (first|refine blk_drewN ?_ _|refine blk_drew ?_|refine blk_alloc ?_ _));exact BK214.out) hb);have n1_:=Aside0.mk (blk_below (g:=gb217) (o:=.cells #[.string t216,.string t221,.int .i64 x218002_15] 23 (0,0)) (by (with_reducible repeat (first|refine blk_drewN ?_ _|refine blk_drew ?_|refine blk_alloc ?_ _));refine blk_put (cs:=#[.string t216,.string (⟨#[]⟩ : ByteArray),.int .i64 x218002_15]) ?_ 1 _ rfl;(with_reducible repeat (first|refine blk_drewN ?_ _|refine blk_drew ?_|refine blk_alloc ?_ _));exact BK217.out) hb);have n2_:=Aside0.mk (below_step (by repeat (first|(with_reducible first|exact HB.out|apply below_alloc|apply pw_below_drewN|apply below_drew1|refine below_set ?_ GE214.out|refine below_set ?_ GE217.out)|exact HB.out)) hb);clear BK214;clear BK217;clear HB;have BK214:=n0_;have BK217:=n1_;have HB:=n2_;clear n0_ n1_ n2_;(try clear hb);(try clear hb2);(try clear hk);(try clear hi);have hcz53_0 : w52.cell? ⟨gb214,0,none⟩ = some (.string x215000_15):=(blk_cell BK214.out 0).trans rfl;have hcz53_1 : w52.cell? ⟨gb214,1,none⟩ = some (.string x215001_15):=(blk_cell BK214.out 1).trans rfl;have hcz53_2 : w52.cell? ⟨gb214,2,none⟩ = some (.int .i64 x215002_15):=(blk_cell BK214.out 2).trans rfl;have hfz53_0:=blk_frozen BK214.out 0;have hfz53_1:=blk_frozen BK214.out 1;have hfz53_2:=blk_frozen BK214.out 2))
          refine bodyPost_ret (results_ct rfl _ _ gb214 23 #[.string (⟨#[]⟩ : ByteArray),.string (⟨#[]⟩ : ByteArray),.int .i64 0] (0,0) _ rfl (by (with_reducible repeat (first|refine blk_drewN ?_ _|refine blk_drew ?_|refine blk_alloc ?_ _));refine blk_put (cs:=#[.string (⟨#[]⟩ : ByteArray),.string (⟨#[]⟩ : ByteArray),.int .i64 x215002_15]) ?_ 2 _ rfl;(with_reducible repeat (first|refine blk_drewN ?_ _|refine blk_drew ?_|refine blk_alloc ?_ _));refine blk_put (cs:=#[.string (⟨#[]⟩ : ByteArray),.string x215001_15,.int .i64 x215002_15]) ?_ 1 _ rfl;(with_reducible repeat (first|refine blk_drewN ?_ _|refine blk_drew ?_|refine blk_alloc ?_ _));refine blk_put (cs:=#[.string x215000_15,.string x215001_15,.int .i64 x215002_15]) ?_ 0 _ rfl;(with_reducible repeat (first|refine blk_drewN ?_ _|refine blk_drew ?_|refine blk_alloc ?_ _));exact BK214.out) Tryd.underlying23 rfl (by kernel_rfl)) rfl ?_
          exact ⟨by first|rfl|(simp [errW_none,errW_some] <;> rfl)|(simp only [← hji12];first|rfl|(simp [errW_none,errW_some] <;> rfl))|(simp [*,errW_none,errW_some] <;> rfl),by repeat (first|(with_reducible first|exact HB.out|apply below_alloc|apply pw_below_drewN|apply below_drew1|refine below_set ?_ GE214.out|refine below_set ?_ GE217.out)|exact HB.out)⟩
      ·rw [if_neg c14] at H
       exact absurd H (by simp)
     ·rw [if_neg c13] at H
      exact absurd H (by simp)
    ·rw [if_neg c10] at H
     exact absurd H (by simp)
   ·rw [if_neg c9] at H
    exact absurd H (by simp)

/-! ### lockkeeperref3_Show: function 24 -/
def lockkeeperref3_Show.f (k : Nat) (a0_0 : ByteArray) (a0_1 : ByteArray) (a0_2 : Int) : Option (ByteArray):=(lockkeeperref3_Check.f k a0_0 a0_1 a0_2).bind fun t224 => (if t224 = true then (if a0_0.size + 3 ≤ 9223372036854775807 then (if (a0_0 ++ (⟨#[58,47,47]⟩ : ByteArray)).size + a0_1.size ≤ 9223372036854775807 then ((lockkeeperref3_Default.f a0_0).bind fun t225 => (if a0_2 = t225 then (some ((a0_0 ++ (⟨#[58,47,47]⟩ : ByteArray)) ++ a0_1)) else (if ((a0_0 ++ (⟨#[58,47,47]⟩ : ByteArray)) ++ a0_1).size + 1 ≤ 9223372036854775807 then ((lockkeeperref1_Num.f k (IntKind.u64.wrap (a0_2))).bind fun t226 => (if (((a0_0 ++ (⟨#[58,47,47]⟩ : ByteArray)) ++ a0_1) ++ (⟨#[58]⟩ : ByteArray)).size + t226.size ≤ 9223372036854775807 then (some ((((a0_0 ++ (⟨#[58,47,47]⟩ : ByteArray)) ++ a0_1) ++ (⟨#[58]⟩ : ByteArray)) ++ t226)) else (none))) else (none)))) else (none)) else (none)) else (some (⟨#[]⟩ : ByteArray)))
theorem lockkeeperref3_Show.mono : ∀ a0 a1 a2 k,LeO (lockkeeperref3_Show.f k a0 a1 a2) (lockkeeperref3_Show.f (k + 1) a0 a1 a2):=by
 intro a0 a1 a2 k
 unfold lockkeeperref3_Show.f
 repeat' first
   | (with_reducible exact lockkeeperref1_Num.mono _ _)
   | (with_reducible exact lockkeeperref3_Check.mono _ _ _ _)
   | (with_reducible exact LeO.refl _)
   | (with_reducible exact LeO.none _)
   | (with_reducible refine LeO.ite ?_ ?_)
   | (with_reducible refine LeO.bind ?_ (fun _ => ?_))
   | exact lockkeeperref1_Num.mono _ _
   | exact lockkeeperref3_Check.mono _ _ _ _
   | exact LeO.none _
   | refine LeO.ite ?_ ?_
   | refine LeO.bind ?_ (fun _ => ?_)
set_option maxHeartbeats 8000000 in
set_option maxRecDepth 100000 in
theorem lockkeeperref3_Show.calls (k : Nat) (a0_0 : ByteArray) (a0_1 : ByteArray) (a0_2 : Int) (r : ByteArray) (w : World) (h : lockkeeperref3_Show.f k a0_0 a0_1 a0_2 = some r) :
  Calls Tryd.prog 24 #[.agg #[.string a0_0,.string a0_1,.int .i64 a0_2]] w fun e w' => e = .returned (.string r) ∧ Below w.heap.size w w':=by
 have hu23:=Tryd.underlying23
 have HB:=Aside0.mk (Below.refl w.heap.size w)
 have H : ((lockkeeperref3_Check.f k a0_0 a0_1 a0_2).bind fun t224 => (if t224 = true then (if a0_0.size + 3 ≤ 9223372036854775807 then (if (a0_0 ++ (⟨#[58,47,47]⟩ : ByteArray)).size + a0_1.size ≤ 9223372036854775807 then ((lockkeeperref3_Default.f a0_0).bind fun t225 => (if a0_2 = t225 then (some ((a0_0 ++ (⟨#[58,47,47]⟩ : ByteArray)) ++ a0_1)) else (if ((a0_0 ++ (⟨#[58,47,47]⟩ : ByteArray)) ++ a0_1).size + 1 ≤ 9223372036854775807 then ((lockkeeperref1_Num.f k (IntKind.u64.wrap (a0_2))).bind fun t226 => (if (((a0_0 ++ (⟨#[58,47,47]⟩ : ByteArray)) ++ a0_1) ++ (⟨#[58]⟩ : ByteArray)).size + t226.size ≤ 9223372036854775807 then (some ((((a0_0 ++ (⟨#[58,47,47]⟩ : ByteArray)) ++ a0_1) ++ (⟨#[58]⟩ : ByteArray)) ++ t226)) else (none))) else (none)))) else (none)) else (none)) else (some (⟨#[]⟩ : ByteArray)))) = some r:=h
 clear h
 replace H:=Option.bind_eq_some_iff.mp H
 obtain ⟨t224,A20,H⟩:=H
 replace H : (if t224 = true then (if a0_0.size + 3 ≤ 9223372036854775807 then (if (a0_0 ++ (⟨#[58,47,47]⟩ : ByteArray)).size + a0_1.size ≤ 9223372036854775807 then ((lockkeeperref3_Default.f a0_0).bind fun t225 => (if a0_2 = t225 then (some ((a0_0 ++ (⟨#[58,47,47]⟩ : ByteArray)) ++ a0_1)) else (if ((a0_0 ++ (⟨#[58,47,47]⟩ : ByteArray)) ++ a0_1).size + 1 ≤ 9223372036854775807 then ((lockkeeperref1_Num.f k (IntKind.u64.wrap (a0_2))).bind fun t226 => (if (((a0_0 ++ (⟨#[58,47,47]⟩ : ByteArray)) ++ a0_1) ++ (⟨#[58]⟩ : ByteArray)).size + t226.size ≤ 9223372036854775807 then (some ((((a0_0 ++ (⟨#[58,47,47]⟩ : ByteArray)) ++ a0_1) ++ (⟨#[58]⟩ : ByteArray)) ++ t226)) else (none))) else (none)))) else (none)) else (none)) else (some (⟨#[]⟩ : ByteArray))) = some r:=H
 have A2:=Aside0.mk A20
 clear A20
 by_cases c3 : t224 = true
 ·subst c3
  have H1 : (if a0_0.size + 3 ≤ 9223372036854775807 then (if (a0_0 ++ (⟨#[58,47,47]⟩ : ByteArray)).size + a0_1.size ≤ 9223372036854775807 then ((lockkeeperref3_Default.f a0_0).bind fun t225 => (if a0_2 = t225 then (some ((a0_0 ++ (⟨#[58,47,47]⟩ : ByteArray)) ++ a0_1)) else (if ((a0_0 ++ (⟨#[58,47,47]⟩ : ByteArray)) ++ a0_1).size + 1 ≤ 9223372036854775807 then ((lockkeeperref1_Num.f k (IntKind.u64.wrap (a0_2))).bind fun t226 => (if (((a0_0 ++ (⟨#[58,47,47]⟩ : ByteArray)) ++ a0_1) ++ (⟨#[58]⟩ : ByteArray)).size + t226.size ≤ 9223372036854775807 then (some ((((a0_0 ++ (⟨#[58,47,47]⟩ : ByteArray)) ++ a0_1) ++ (⟨#[58]⟩ : ByteArray)) ++ t226)) else (none))) else (none)))) else (none)) else (none)) = some r:=by rw [if_pos rfl] at H;exact H
  clear H
  have H:=H1
  clear H1
  by_cases c4 : a0_0.size + 3 ≤ 9223372036854775807
  ·rw [if_pos c4] at H
   have c4b0:=eq_true c4
   have c4b1 : decide (a0_0.size + 3 ≤ 9223372036854775807) = true:=decide_eq_true c4
   try have c4b2 : (9223372036854775807 < a0_0.size + 3) = False:=eq_false (Nat.not_lt.2 c4)
   by_cases c5 : (a0_0 ++ (⟨#[58,47,47]⟩ : ByteArray)).size + a0_1.size ≤ 9223372036854775807
   ·rw [if_pos c5] at H
    try (have c5b5:=c5;simp only [ByteArray.size_append,Int.natCast_add] at c5b5)
    have c5b0:=eq_true c5
    have c5b1 : decide ((a0_0 ++ (⟨#[58,47,47]⟩ : ByteArray)).size + a0_1.size ≤ 9223372036854775807) = true:=decide_eq_true c5
    try have c5b2 : (9223372036854775807 < (a0_0 ++ (⟨#[58,47,47]⟩ : ByteArray)).size + a0_1.size) = False:=eq_false (Nat.not_lt.2 c5)
    try have c5b3 : (9223372036854775807 < a0_0.size + 3 + a0_1.size) = False:=eq_false (Nat.not_lt.2 (by have z_:=c5;simp only [ByteArray.size_append] at z_;first|exact z_|simpa using z_))
    replace H:=Option.bind_eq_some_iff.mp H
    obtain ⟨t225,A60,H⟩:=H
    replace H : (if a0_2 = t225 then (some ((a0_0 ++ (⟨#[58,47,47]⟩ : ByteArray)) ++ a0_1)) else (if ((a0_0 ++ (⟨#[58,47,47]⟩ : ByteArray)) ++ a0_1).size + 1 ≤ 9223372036854775807 then ((lockkeeperref1_Num.f k (IntKind.u64.wrap (a0_2))).bind fun t226 => (if (((a0_0 ++ (⟨#[58,47,47]⟩ : ByteArray)) ++ a0_1) ++ (⟨#[58]⟩ : ByteArray)).size + t226.size ≤ 9223372036854775807 then (some ((((a0_0 ++ (⟨#[58,47,47]⟩ : ByteArray)) ++ a0_1) ++ (⟨#[58]⟩ : ByteArray)) ++ t226)) else (none))) else (none))) = some r:=H
    have A6:=Aside0.mk A60
    clear A60
    by_cases c7 : a0_2 = t225
    ·rw [if_pos c7] at H
     have c7b0 : (a0_2 == t225) = true:=beq_iff_eq.mpr c7
     have c7b1 : (a0_2 != t225) = false:=bne_eq_false_iff_eq.mpr c7
     clear c7
     obtain rfl:=Option.some.inj H
     go_enter Tryd.func24,Tryd.ntmps24
     go_wp2_with (first|((with_reducible refine gate_dst (N:=1) rfl ?_);refine box_event ?hg (N:=1) ?hd (cs:=#[.string a0_0,.string a0_1,.int .i64 a0_2]) (t:=23) ?hr ?_;(case hd => rfl);(case hg => rfl);(case hr => first|(go_simp;done)|(go_simp;rfl));intro gb223 hg w8 hbox hb;have n0_:=Aside0.mk (below_step (by repeat (first|(with_reducible first|exact HB.out|apply below_alloc|apply pw_below_drewN|apply below_drew1)|exact HB.out)) hb);have n1_:=Aside0.mk (hbox);have n2_:=Aside0.mk ((by rw [hg];exact (below_size (by repeat (first|(with_reducible first|exact HB.out|apply below_alloc|apply pw_below_drewN|apply below_drew1)|exact HB.out))) : w.heap.size ≤ gb223));have n3_:=Aside0.mk ((by rw [hg];exact (below_size (by repeat (first|(with_reducible first|exact HB.out|apply below_alloc|apply pw_below_drewN|apply below_drew1)|exact HB.out))) : w.heap.size ≤ gb223));clear HB;have HB:=n0_;have BK223:=n1_;have GW223:=n2_;have GE223:=n3_;clear n0_ n1_ n2_ n3_;clear hb hbox hg;have hcz9_0 : w8.cell? ⟨gb223,0,none⟩ = some (.string a0_0):=(blk_cell BK223.out 0).trans rfl;have hcz9_1 : w8.cell? ⟨gb223,1,none⟩ = some (.string a0_1):=(blk_cell BK223.out 1).trans rfl;have hcz9_2 : w8.cell? ⟨gb223,2,none⟩ = some (.int .i64 a0_2):=(blk_cell BK223.out 2).trans rfl;have hfz9_0:=blk_frozen BK223.out 0;have hfz9_1:=blk_frozen BK223.out 1;have hfz9_2:=blk_frozen BK223.out 2)|(go_at_call 22;(with_reducible refine (lockkeeperref3_Check.calls k a0_0 a0_1 a0_2 true _ A2.out).mono ?_);rintro e w10 ⟨rfl,hb⟩;have n0_:=Aside0.mk (blk_below (g:=gb223) (o:=.cells #[.string a0_0,.string a0_1,.int .i64 a0_2] 23 (0,0)) (by (with_reducible repeat (first|refine blk_drewN ?_ _|refine blk_drew ?_|refine blk_alloc ?_ _));exact BK223.out) hb);have n1_:=Aside0.mk (below_step (by repeat (first|(with_reducible first|exact HB.out|apply below_alloc|apply pw_below_drewN|apply below_drew1|refine below_set ?_ GE223.out)|exact HB.out)) hb);clear BK223;clear HB;have BK223:=n0_;have HB:=n1_;clear n0_ n1_;(try clear hb);(try clear hb2);(try clear hk);(try clear hi);have hcz11_0 : w10.cell? ⟨gb223,0,none⟩ = some (.string a0_0):=(blk_cell BK223.out 0).trans rfl;have hcz11_1 : w10.cell? ⟨gb223,1,none⟩ = some (.string a0_1):=(blk_cell BK223.out 1).trans rfl;have hcz11_2 : w10.cell? ⟨gb223,2,none⟩ = some (.int .i64 a0_2):=(blk_cell BK223.out 2).trans rfl;have hfz11_0:=blk_frozen BK223.out 0;have hfz11_1:=blk_frozen BK223.out 1;have hfz11_2:=blk_frozen BK223.out 2)|(go_at_call 28;(with_reducible refine (lockkeeperref3_Default.calls a0_0 t225 _ A6.out).mono ?_);rintro e w' ⟨rfl,⟨nd,rfl⟩⟩;(try first|exact ⟨rfl,_,World.drewN_drewN _ _ _⟩|exact ⟨rfl,_,Eq.trans (World.drewN_drewN _ _ _) (congrArg (World.drewN _) (Nat.add_assoc _ _ _))⟩)))
     repeat (go_quiet (first|((with_reducible refine gate_dst (N:=1) rfl ?_);refine box_event ?hg (N:=1) ?hd (cs:=#[.string a0_0,.string a0_1,.int .i64 a0_2]) (t:=23) ?hr ?_;(case hd => rfl);(case hg => rfl);(case hr => first|(go_simp;done)|(go_simp;rfl));intro gb223 hg w8 hbox hb;have n0_:=Aside0.mk (below_step (by repeat (first|(with_reducible first|exact HB.out|apply below_alloc|apply pw_below_drewN|apply below_drew1)|exact HB.out)) hb);have n1_:=Aside0.mk (hbox);have n2_:=Aside0.mk ((by rw [hg];exact (below_size (by repeat (first|(with_reducible first|exact HB.out|apply below_alloc|apply pw_below_drewN|apply below_drew1)|exact HB.out))) : w.heap.size ≤ gb223));have n3_:=Aside0.mk ((by rw [hg];exact (below_size (by repeat (first|(with_reducible first|exact HB.out|apply below_alloc|apply pw_below_drewN|apply below_drew1)|exact HB.out))) : w.heap.size ≤ gb223));clear HB;have HB:=n0_;have BK223:=n1_;have GW223:=n2_;have GE223:=n3_;clear n0_ n1_ n2_ n3_;clear hb hbox hg;have hcz9_0 : w8.cell? ⟨gb223,0,none⟩ = some (.string a0_0):=(blk_cell BK223.out 0).trans rfl;have hcz9_1 : w8.cell? ⟨gb223,1,none⟩ = some (.string a0_1):=(blk_cell BK223.out 1).trans rfl;have hcz9_2 : w8.cell? ⟨gb223,2,none⟩ = some (.int .i64 a0_2):=(blk_cell BK223.out 2).trans rfl;have hfz9_0:=blk_frozen BK223.out 0;have hfz9_1:=blk_frozen BK223.out 1;have hfz9_2:=blk_frozen BK223.out 2)|(go_at_call 22;(with_reducible refine (lockkeeperref3_Check.calls k a0_0 a0_1 a0_2 true _ A2.out).mono ?_);rintro e w10 ⟨rfl,hb⟩;have n0_:=Aside0.mk (blk_below (g:=gb223) (o:=.cells #[.string a0_0,.string a0_1,.int .i64 a0_2] 23 (0,0)) (by (with_reducible repeat (first|refine blk_drewN ?_ _|refine blk_drew ?_|refine blk_alloc ?_ _));exact BK223.out) hb);have n1_:=Aside0.mk (below_step (by repeat (first|(with_reducible first|exact HB.out|apply below_alloc|apply pw_below_drewN|apply below_drew1|refine below_set ?_ GE223.out)|exact HB.out)) hb);clear BK223;clear HB;have BK223:=n0_;have HB:=n1_;clear n0_ n1_;(try clear hb);(try clear hb2);(try clear hk);(try clear hi);have hcz11_0 : w10.cell? ⟨gb223,0,none⟩ = some (.string a0_0):=(blk_cell BK223.out 0).trans rfl;have hcz11_1 : w10.cell? ⟨gb223,1,none⟩ = some (.string a0_1):=(blk_cell BK223.out 1).trans rfl;have hcz11_2 : w10.cell? ⟨gb223,2,none⟩ = some (.int .i64 a0_2):=(blk_cell BK223.out 2).trans rfl;have hfz11_0:=blk_frozen BK223.out 0;have hfz11_1:=blk_frozen BK223.out 1;have hfz11_2:=blk_frozen BK223.out 2)|(go_at_call 28;(with_reducible refine (lockkeeperref3_Default.calls a0_0 t225 _ A6.out).mono ?_);rintro e w' ⟨rfl,⟨nd,rfl⟩⟩;(try first|exact ⟨rfl,_,World.drewN_drewN _ _ _⟩|exact ⟨rfl,_,Eq.trans (World.drewN_drewN _ _ _) (congrArg (World.drewN _) (Nat.add_assoc _ _ _))⟩)));try go_wp2_with (first|((with_reducible refine gate_dst (N:=1) rfl ?_);refine box_event ?hg (N:=1) ?hd (cs:=#[.string a0_0,.string a0_1,.int .i64 a0_2]) (t:=23) ?hr ?_;(case hd => rfl);(case hg => rfl);(case hr => first|(go_simp;done)|(go_simp;rfl));intro gb223 hg w8 hbox hb;have n0_:=Aside0.mk (below_step (by repeat (first|(with_reducible first|exact HB.out|apply below_alloc|apply pw_below_drewN|apply below_drew1)|exact HB.out)) hb);have n1_:=Aside0.mk (hbox);have n2_:=Aside0.mk ((by rw [hg];exact (below_size (by repeat (first|(with_reducible first|exact HB.out|apply below_alloc|apply pw_below_drewN|apply below_drew1)|exact HB.out))) : w.heap.size ≤ gb223));have n3_:=Aside0.mk ((by rw [hg];exact (below_size (by repeat (first|(with_reducible first|exact HB.out|apply below_alloc|apply pw_below_drewN|apply below_drew1)|exact HB.out))) : w.heap.size ≤ gb223));clear HB;have HB:=n0_;have BK223:=n1_;have GW223:=n2_;have GE223:=n3_;clear n0_ n1_ n2_ n3_;clear hb hbox hg;have hcz9_0 : w8.cell? ⟨gb223,0,none⟩ = some (.string a0_0):=(blk_cell BK223.out 0).trans rfl;have hcz9_1 : w8.cell? ⟨gb223,1,none⟩ = some (.string a0_1):=(blk_cell BK223.out 1).trans rfl;have hcz9_2 : w8.cell? ⟨gb223,2,none⟩ = some (.int .i64 a0_2):=(blk_cell BK223.out 2).trans rfl;have hfz9_0:=blk_frozen BK223.out 0;have hfz9_1:=blk_frozen BK223.out 1;have hfz9_2:=blk_frozen BK223.out 2)|(go_at_call 22;(with_reducible refine (lockkeeperref3_Check.calls k a0_0 a0_1 a0_2 true _ A2.out).mono ?_);rintro e w10 ⟨rfl,hb⟩;have n0_:=Aside0.mk (blk_below (g:=gb223) (o:=.cells #[.string a0_0,.string a0_1,.int .i64 a0_2] 23 (0,0)) (by (with_reducible repeat (first|refine blk_drewN ?_ _|refine blk_drew ?_|refine blk_alloc ?_ _));exact BK223.out) hb);have n1_:=Aside0.mk (below_step (by repeat (first|(with_reducible first|exact HB.out|apply below_alloc|apply pw_below_drewN|apply below_drew1|refine below_set ?_ GE223.out)|exact HB.out)) hb);clear BK223;clear HB;have BK223:=n0_;have HB:=n1_;clear n0_ n1_;(try clear hb);(try clear hb2);(try clear hk);(try clear hi);have hcz11_0 : w10.cell? ⟨gb223,0,none⟩ = some (.string a0_0):=(blk_cell BK223.out 0).trans rfl;have hcz11_1 : w10.cell? ⟨gb223,1,none⟩ = some (.string a0_1):=(blk_cell BK223.out 1).trans rfl;have hcz11_2 : w10.cell? ⟨gb223,2,none⟩ = some (.int .i64 a0_2):=(blk_cell BK223.out 2).trans rfl;have hfz11_0:=blk_frozen BK223.out 0;have hfz11_1:=blk_frozen BK223.out 1;have hfz11_2:=blk_frozen BK223.out 2)|(go_at_call 28;(with_reducible refine (lockkeeperref3_Default.calls a0_0 t225 _ A6.out).mono ?_);rintro e w' ⟨rfl,⟨nd,rfl⟩⟩;(try first|exact ⟨rfl,_,World.drewN_drewN _ _ _⟩|exact ⟨rfl,_,Eq.trans (World.drewN_drewN _ _ _) (congrArg (World.drewN _) (Nat.add_assoc _ _ _))⟩))))
     go_ret
     exact ⟨by first|rfl|(simp [errW_none,errW_some] <;> rfl)|(simp [*,errW_none,errW_some] <;> rfl),by repeat (first|(with_reducible first|exact HB.out|apply below_alloc|apply pw_below_drewN|apply below_drew1|refine below_set ?_ GE223.out)|exact HB.out)⟩
    ·rw [if_neg c7] at H
     have c7b0 : (a0_2 == t225) = false:=beq_eq_false_iff_ne.mpr c7
     have c7b1 : (a0_2 != t225) = true:=bne_iff_ne.mpr c7
     by_cases c12 : ((a0_0 ++ (⟨#[58,47,47]⟩ : ByteArray)) ++ a0_1).size + 1 ≤ 9223372036854775807
     ·rw [if_pos c12] at H
      try (have c12b5:=c12;simp only [ByteArray.size_append,Int.natCast_add] at c12b5)
      have c12b0:=eq_true c12
      have c12b1 : decide (((a0_0 ++ (⟨#[58,47,47]⟩ : ByteArray)) ++ a0_1).size + 1 ≤ 9223372036854775807) = true:=decide_eq_true c12
      try have c12b2 : (9223372036854775807 < ((a0_0 ++ (⟨#[58,47,47]⟩ : ByteArray)) ++ a0_1).size + 1) = False:=eq_false (Nat.not_lt.2 c12)
      try have c12b3 : (9223372036854775807 < a0_0.size + 3 + a0_1.size + 1) = False:=eq_false (Nat.not_lt.2 (by have z_:=c12;simp only [ByteArray.size_append] at z_;first|exact z_|simpa using z_))
      replace H:=Option.bind_eq_some_iff.mp H
      obtain ⟨t226,A130,H⟩:=H
      replace H : (if (((a0_0 ++ (⟨#[58,47,47]⟩ : ByteArray)) ++ a0_1) ++ (⟨#[58]⟩ : ByteArray)).size + t226.size ≤ 9223372036854775807 then (some ((((a0_0 ++ (⟨#[58,47,47]⟩ : ByteArray)) ++ a0_1) ++ (⟨#[58]⟩ : ByteArray)) ++ t226)) else (none)) = some r:=H
      have A13:=Aside0.mk A130
      clear A130
      by_cases c14 : (((a0_0 ++ (⟨#[58,47,47]⟩ : ByteArray)) ++ a0_1) ++ (⟨#[58]⟩ : ByteArray)).size + t226.size ≤ 9223372036854775807
      ·rw [if_pos c14] at H
       try (have c14b5:=c14;simp only [ByteArray.size_append,Int.natCast_add] at c14b5)
       have c14b0:=eq_true c14
       have c14b1 : decide ((((a0_0 ++ (⟨#[58,47,47]⟩ : ByteArray)) ++ a0_1) ++ (⟨#[58]⟩ : ByteArray)).size + t226.size ≤ 9223372036854775807) = true:=decide_eq_true c14
       try have c14b2 : (9223372036854775807 < (((a0_0 ++ (⟨#[58,47,47]⟩ : ByteArray)) ++ a0_1) ++ (⟨#[58]⟩ : ByteArray)).size + t226.size) = False:=eq_false (Nat.not_lt.2 c14)
       try have c14b3 : (9223372036854775807 < a0_0.size + 3 + a0_1.size + 1 + t226.size) = False:=eq_false (Nat.not_lt.2 (by have z_:=c14;simp only [ByteArray.size_append] at z_;first|exact z_|simpa using z_))
       obtain rfl:=Option.some.inj H
       go_enter Tryd.func24,Tryd.ntmps24
       go_wp2_with (first|((with_reducible refine gate_dst (N:=1) rfl ?_);refine box_event ?hg (N:=1) ?hd (cs:=#[.string a0_0,.string a0_1,.int .i64 a0_2]) (t:=23) ?hr ?_;(case hd => rfl);(case hg => rfl);(case hr => first|(go_simp;done)|(go_simp;rfl));intro gb223 hg w15 hbox hb;have n0_:=Aside0.mk (below_step (by repeat (first|(with_reducible first|exact HB.out|apply below_alloc|apply pw_below_drewN|apply below_drew1)|exact HB.out)) hb);have n1_:=Aside0.mk (hbox);have n2_:=Aside0.mk ((by rw [hg];exact (below_size (by repeat (first|(with_reducible first|exact HB.out|apply below_alloc|apply pw_below_drewN|apply below_drew1)|exact HB.out))) : w.heap.size ≤ gb223));have n3_:=Aside0.mk ((by rw [hg];exact (below_size (by repeat (first|(with_reducible first|exact HB.out|apply below_alloc|apply pw_below_drewN|apply below_drew1)|exact HB.out))) : w.heap.size ≤ gb223));clear HB;have HB:=n0_;have BK223:=n1_;have GW223:=n2_;have GE223:=n3_;clear n0_ n1_ n2_ n3_;clear hb hbox hg;have hcz16_0 : w15.cell? ⟨gb223,0,none⟩ = some (.string a0_0):=(blk_cell BK223.out 0).trans rfl;have hcz16_1 : w15.cell? ⟨gb223,1,none⟩ = some (.string a0_1):=(blk_cell BK223.out 1).trans rfl;have hcz16_2 : w15.cell? ⟨gb223,2,none⟩ = some (.int .i64 a0_2):=(blk_cell BK223.out 2).trans rfl;have hfz16_0:=blk_frozen BK223.out 0;have hfz16_1:=blk_frozen BK223.out 1;have hfz16_2:=blk_frozen BK223.out 2)|(go_at_call 22;(with_reducible refine (lockkeeperref3_Check.calls k a0_0 a0_1 a0_2 true _ A2.out).mono ?_);rintro e w17 ⟨rfl,hb⟩;have n0_:=Aside0.mk (blk_below (g:=gb223) (o:=.cells #[.string a0_0,.string a0_1,.int .i64 a0_2] 23 (0,0)) (by (with_reducible repeat (first|refine blk_drewN ?_ _|refine blk_drew ?_|refine blk_alloc ?_ _));exact BK223.out) hb);have n1_:=Aside0.mk (below_step (by repeat (first|(with_reducible first|exact HB.out|apply below_alloc|apply pw_below_drewN|apply below_drew1|refine below_set ?_ GE223.out)|exact HB.out)) hb);clear BK223;clear HB;have BK223:=n0_;have HB:=n1_;clear n0_ n1_;(try clear hb);(try clear hb2);(try clear hk);(try clear hi);have hcz18_0 : w17.cell? ⟨gb223,0,none⟩ = some (.string a0_0):=(blk_cell BK223.out 0).trans rfl;have hcz18_1 : w17.cell? ⟨gb223,1,none⟩ = some (.string a0_1):=(blk_cell BK223.out 1).trans rfl;have hcz18_2 : w17.cell? ⟨gb223,2,none⟩ = some (.int .i64 a0_2):=(blk_cell BK223.out 2).trans rfl;have hfz18_0:=blk_frozen BK223.out 0;have hfz18_1:=blk_frozen BK223.out 1;have hfz18_2:=blk_frozen BK223.out 2)|(go_at_call 28;(with_reducible refine (lockkeeperref3_Default.calls a0_0 t225 _ A6.out).mono ?_);rintro e w' ⟨rfl,⟨nd,rfl⟩⟩;(try first|exact ⟨rfl,_,World.drewN_drewN _ _ _⟩|exact ⟨rfl,_,Eq.trans (World.drewN_drewN _ _ _) (congrArg (World.drewN _) (Nat.add_assoc _ _ _))⟩))|(go_at_call 32;(with_reducible refine (lockkeeperref1_Num.calls k (IntKind.u64.wrap (a0_2)) t226 _ A13.out).mono ?_);rintro e w' ⟨rfl,⟨nd,rfl⟩⟩;(try first|exact ⟨rfl,_,World.drewN_drewN _ _ _⟩|exact ⟨rfl,_,Eq.trans (World.drewN_drewN _ _ _) (congrArg (World.drewN _) (Nat.add_assoc _ _ _))⟩)))
       repeat (go_quiet (first|((with_reducible refine gate_dst (N:=1) rfl ?_);refine box_event ?hg (N:=1) ?hd (cs:=#[.string a0_0,.string a0_1,.int .i64 a0_2]) (t:=23) ?hr ?_;(case hd => rfl);(case hg => rfl);(case hr => first|(go_simp;done)|(go_simp;rfl));intro gb223 hg w15 hbox hb;have n0_:=Aside0.mk (below_step (by repeat (first|(with_reducible first|exact HB.out|apply below_alloc|apply pw_below_drewN|apply below_drew1)|exact HB.out)) hb);have n1_:=Aside0.mk (hbox);have n2_:=Aside0.mk ((by rw [hg];exact (below_size (by repeat (first|(with_reducible first|exact HB.out|apply below_alloc|apply pw_below_drewN|apply below_drew1)|exact HB.out))) : w.heap.size ≤ gb223));have n3_:=Aside0.mk ((by rw [hg];exact (below_size (by repeat (first|(with_reducible first|exact HB.out|apply below_alloc|apply pw_below_drewN|apply below_drew1)|exact HB.out))) : w.heap.size ≤ gb223));clear HB;have HB:=n0_;have BK223:=n1_;have GW223:=n2_;have GE223:=n3_;clear n0_ n1_ n2_ n3_;clear hb hbox hg;have hcz16_0 : w15.cell? ⟨gb223,0,none⟩ = some (.string a0_0):=(blk_cell BK223.out 0).trans rfl;have hcz16_1 : w15.cell? ⟨gb223,1,none⟩ = some (.string a0_1):=(blk_cell BK223.out 1).trans rfl;have hcz16_2 : w15.cell? ⟨gb223,2,none⟩ = some (.int .i64 a0_2):=(blk_cell BK223.out 2).trans rfl;have hfz16_0:=blk_frozen BK223.out 0;have hfz16_1:=blk_frozen BK223.out 1;have hfz16_2:=blk_frozen BK223.out 2)|(go_at_call 22;(with_reducible refine (lockkeeperref3_Check.calls k a0_0 a0_1 a0_2 true _ A2.out).mono ?_);rintro e w17 ⟨rfl,hb⟩;have n0_:=Aside0.mk (blk_below (g:=gb223) (o:=.cells #[.string a0_0,.string a0_1,.int .i64 a0_2] 23 (0,0)) (by (with_reducible repeat (first|refine blk_drewN ?_ _|refine blk_drew ?_|refine blk_alloc ?_ _));exact BK223.out) hb);have n1_:=Aside0.mk (below_step (by repeat (first|(with_reducible first|exact HB.out|apply below_alloc|apply pw_below_drewN|apply below_drew1|refine below_set ?_ GE223.out)|exact HB.out)) hb);clear BK223;clear HB;have BK223:=n0_;have HB:=n1_;clear n0_ n1_;(try clear hb);(try clear hb2);(try clear hk);(try clear hi);have hcz18_0 : w17.cell? ⟨gb223,0,none⟩ = some (.string a0_0):=(blk_cell BK223.out 0).trans rfl;have hcz18_1 : w17.cell? ⟨gb223,1,none⟩ = some (.string a0_1):=(blk_cell BK223.out 1).trans rfl;have hcz18_2 : w17.cell? ⟨gb223,2,none⟩ = some (.int .i64 a0_2):=(blk_cell BK223.out 2).trans rfl;have hfz18_0:=blk_frozen BK223.out 0;have hfz18_1:=blk_frozen BK223.out 1;have hfz18_2:=blk_frozen BK223.out 2)|(go_at_call 28;(with_reducible refine (lockkeeperref3_Default.calls a0_0 t225 _ A6.out).mono ?_);rintro e w' ⟨rfl,⟨nd,rfl⟩⟩;(try first|exact ⟨rfl,_,World.drewN_drewN _ _ _⟩|exact ⟨rfl,_,Eq.trans (World.drewN_drewN _ _ _) (congrArg (World.drewN _) (Nat.add_assoc _ _ _))⟩))|(go_at_call 32;(with_reducible refine (lockkeeperref1_Num.calls k (IntKind.u64.wrap (a0_2)) t226 _ A13.out).mono ?_);rintro e w' ⟨rfl,⟨nd,rfl⟩⟩;(try first|exact ⟨rfl,_,World.drewN_drewN _ _ _⟩|exact ⟨rfl,_,Eq.trans (World.drewN_drewN _ _ _) (congrArg (World.drewN _) (Nat.add_assoc _ _ _))⟩)));try go_wp2_with (first|((with_reducible refine gate_dst (N:=1) rfl ?_);refine box_event ?hg (N:=1) ?hd (cs:=#[.string a0_0,.string a0_1,.int .i64 a0_2]) (t:=23) ?hr ?_;(case hd => rfl);(case hg => rfl);(case hr => first|(go_simp;done)|(go_simp;rfl));intro gb223 hg w15 hbox hb;have n0_:=Aside0.mk (below_step (by repeat (first|(with_reducible first|exact HB.out|apply below_alloc|apply pw_below_drewN|apply below_drew1)|exact HB.out)) hb);have n1_:=Aside0.mk (hbox);have n2_:=Aside0.mk ((by rw [hg];exact (below_size (by repeat (first|(with_reducible first|exact HB.out|apply below_alloc|apply pw_below_drewN|apply below_drew1)|exact HB.out))) : w.heap.size ≤ gb223));have n3_:=Aside0.mk ((by rw [hg];exact (below_size (by repeat (first|(with_reducible first|exact HB.out|apply below_alloc|apply pw_below_drewN|apply below_drew1)|exact HB.out))) : w.heap.size ≤ gb223));clear HB;have HB:=n0_;have BK223:=n1_;have GW223:=n2_;have GE223:=n3_;clear n0_ n1_ n2_ n3_;clear hb hbox hg;have hcz16_0 : w15.cell? ⟨gb223,0,none⟩ = some (.string a0_0):=(blk_cell BK223.out 0).trans rfl;have hcz16_1 : w15.cell? ⟨gb223,1,none⟩ = some (.string a0_1):=(blk_cell BK223.out 1).trans rfl;have hcz16_2 : w15.cell? ⟨gb223,2,none⟩ = some (.int .i64 a0_2):=(blk_cell BK223.out 2).trans rfl;have hfz16_0:=blk_frozen BK223.out 0;have hfz16_1:=blk_frozen BK223.out 1;have hfz16_2:=blk_frozen BK223.out 2)|(go_at_call 22;(with_reducible refine (lockkeeperref3_Check.calls k a0_0 a0_1 a0_2 true _ A2.out).mono ?_);rintro e w17 ⟨rfl,hb⟩;have n0_:=Aside0.mk (blk_below (g:=gb223) (o:=.cells #[.string a0_0,.string a0_1,.int .i64 a0_2] 23 (0,0)) (by (with_reducible repeat (first|refine blk_drewN ?_ _|refine blk_drew ?_|refine blk_alloc ?_ _));exact BK223.out) hb);have n1_:=Aside0.mk (below_step (by repeat (first|(with_reducible first|exact HB.out|apply below_alloc|apply pw_below_drewN|apply below_drew1|refine below_set ?_ GE223.out)|exact HB.out)) hb);clear BK223;clear HB;have BK223:=n0_;have HB:=n1_;clear n0_ n1_;(try clear hb);(try clear hb2);(try clear hk);(try clear hi);have hcz18_0 : w17.cell? ⟨gb223,0,none⟩ = some (.string a0_0):=(blk_cell BK223.out 0).trans rfl;have hcz18_1 : w17.cell? ⟨gb223,1,none⟩ = some (.string a0_1):=(blk_cell BK223.out 1).trans rfl;have hcz18_2 : w17.cell? ⟨gb223,2,none⟩ = some (.int .i64 a0_2):=(blk_cell BK223.out 2).trans rfl;have hfz18_0:=blk_frozen BK223.out 0;have hfz18_1:=blk_frozen BK223.out 1;have hfz18_2:=blk_frozen BK223.out 2)|(go_at_call 28;(with_reducible refine (lockkeeperref3_Default.calls a0_0 t225 _ A6.out).mono ?_);rintro e w' ⟨rfl,⟨nd,rfl⟩⟩;(try first|exact ⟨rfl,_,World.drewN_drewN _ _ _⟩|exact ⟨rfl,_,Eq.trans (World.drewN_drewN _ _ _) (congrArg (World.drewN _) (Nat.add_assoc _ _ _))⟩))|(go_at_call 32;(with_reducible refine (lockkeeperref1_Num.calls k (IntKind.u64.wrap (a0_2)) t226 _ A13.out).mono ?_);rintro e w' ⟨rfl,⟨nd,rfl⟩⟩;(try first|exact ⟨rfl,_,World.drewN_drewN _ _ _⟩|exact ⟨rfl,_,Eq.trans (World.drewN_drewN _ _ _) (congrArg (World.drewN _) (Nat.add_assoc _ _ _))⟩))))
       go_ret
       exact ⟨by first|rfl|(simp [errW_none,errW_some] <;> rfl)|(simp [*,errW_none,errW_some] <;> rfl),by repeat (first|(with_reducible first|exact HB.out|apply below_alloc|apply pw_below_drewN|apply below_drew1|refine below_set ?_ GE223.out)|exact HB.out)⟩
      ·rw [if_neg c14] at H
       exact absurd H (by simp)
     ·rw [if_neg c12] at H
      exact absurd H (by simp)
   ·rw [if_neg c5] at H
    exact absurd H (by simp)
  ·rw [if_neg c4] at H
   exact absurd H (by simp)
 ·replace c3:=Bool.eq_false_iff.mpr c3
  subst c3
  have H1 : (some (⟨#[]⟩ : ByteArray)) = some r:=by rw [if_neg (show ¬ (false = true) by decide)] at H;exact H
  clear H
  have H:=H1
  clear H1
  obtain rfl:=Option.some.inj H
  go_enter Tryd.func24,Tryd.ntmps24
  go_wp2_with (first|((with_reducible refine gate_dst (N:=1) rfl ?_);refine box_event ?hg (N:=1) ?hd (cs:=#[.string a0_0,.string a0_1,.int .i64 a0_2]) (t:=23) ?hr ?_;(case hd => rfl);(case hg => rfl);(case hr => first|(go_simp;done)|(go_simp;rfl));intro gb223 hg w19 hbox hb;have n0_:=Aside0.mk (below_step (by repeat (first|(with_reducible first|exact HB.out|apply below_alloc|apply pw_below_drewN|apply below_drew1)|exact HB.out)) hb);have n1_:=Aside0.mk (hbox);have n2_:=Aside0.mk ((by rw [hg];exact (below_size (by repeat (first|(with_reducible first|exact HB.out|apply below_alloc|apply pw_below_drewN|apply below_drew1)|exact HB.out))) : w.heap.size ≤ gb223));have n3_:=Aside0.mk ((by rw [hg];exact (below_size (by repeat (first|(with_reducible first|exact HB.out|apply below_alloc|apply pw_below_drewN|apply below_drew1)|exact HB.out))) : w.heap.size ≤ gb223));clear HB;have HB:=n0_;have BK223:=n1_;have GW223:=n2_;have GE223:=n3_;clear n0_ n1_ n2_ n3_;clear hb hbox hg;have hcz20_0 : w19.cell? ⟨gb223,0,none⟩ = some (.string a0_0):=(blk_cell BK223.out 0).trans rfl;have hcz20_1 : w19.cell? ⟨gb223,1,none⟩ = some (.string a0_1):=(blk_cell BK223.out 1).trans rfl;have hcz20_2 : w19.cell? ⟨gb223,2,none⟩ = some (.int .i64 a0_2):=(blk_cell BK223.out 2).trans rfl;have hfz20_0:=blk_frozen BK223.out 0;have hfz20_1:=blk_frozen BK223.out 1;have hfz20_2:=blk_frozen BK223.out 2)|(go_at_call 22;(with_reducible refine (lockkeeperref3_Check.calls k a0_0 a0_1 a0_2 false _ A2.out).mono ?_);rintro e w21 ⟨rfl,hb⟩;have n0_:=Aside0.mk (blk_below (g:=gb223) (o:=.cells #[.string a0_0,.string a0_1,.int .i64 a0_2] 23 (0,0)) (by (with_reducible repeat (first|refine blk_drewN ?_ _|refine blk_drew ?_|refine blk_alloc ?_ _));exact BK223.out) hb);have n1_:=Aside0.mk (below_step (by repeat (first|(with_reducible first|exact HB.out|apply below_alloc|apply pw_below_drewN|apply below_drew1|refine below_set ?_ GE223.out)|exact HB.out)) hb);clear BK223;clear HB;have BK223:=n0_;have HB:=n1_;clear n0_ n1_;(try clear hb);(try clear hb2);(try clear hk);(try clear hi)))
  repeat (go_quiet (first|((with_reducible refine gate_dst (N:=1) rfl ?_);refine box_event ?hg (N:=1) ?hd (cs:=#[.string a0_0,.string a0_1,.int .i64 a0_2]) (t:=23) ?hr ?_;(case hd => rfl);(case hg => rfl);(case hr => first|(go_simp;done)|(go_simp;rfl));intro gb223 hg w19 hbox hb;have n0_:=Aside0.mk (below_step (by repeat (first|(with_reducible first|exact HB.out|apply below_alloc|apply pw_below_drewN|apply below_drew1)|exact HB.out)) hb);have n1_:=Aside0.mk (hbox);have n2_:=Aside0.mk ((by rw [hg];exact (below_size (by repeat (first|(with_reducible first|exact HB.out|apply below_alloc|apply pw_below_drewN|apply below_drew1)|exact HB.out))) : w.heap.size ≤ gb223));have n3_:=Aside0.mk ((by rw [hg];exact (below_size (by repeat (first|(with_reducible first|exact HB.out|apply below_alloc|apply pw_below_drewN|apply below_drew1)|exact HB.out))) : w.heap.size ≤ gb223));clear HB;have HB:=n0_;have BK223:=n1_;have GW223:=n2_;have GE223:=n3_;clear n0_ n1_ n2_ n3_;clear hb hbox hg;have hcz20_0 : w19.cell? ⟨gb223,0,none⟩ = some (.string a0_0):=(blk_cell BK223.out 0).trans rfl;have hcz20_1 : w19.cell? ⟨gb223,1,none⟩ = some (.string a0_1):=(blk_cell BK223.out 1).trans rfl;have hcz20_2 : w19.cell? ⟨gb223,2,none⟩ = some (.int .i64 a0_2):=(blk_cell BK223.out 2).trans rfl;have hfz20_0:=blk_frozen BK223.out 0;have hfz20_1:=blk_frozen BK223.out 1;have hfz20_2:=blk_frozen BK223.out 2)|(go_at_call 22;(with_reducible refine (lockkeeperref3_Check.calls k a0_0 a0_1 a0_2 false _ A2.out).mono ?_);rintro e w21 ⟨rfl,hb⟩;have n0_:=Aside0.mk (blk_below (g:=gb223) (o:=.cells #[.string a0_0,.string a0_1,.int .i64 a0_2] 23 (0,0)) (by (with_reducible repeat (first|refine blk_drewN ?_ _|refine blk_drew ?_|refine blk_alloc ?_ _));exact BK223.out) hb);have n1_:=Aside0.mk (below_step (by repeat (first|(with_reducible first|exact HB.out|apply below_alloc|apply pw_below_drewN|apply below_drew1|refine below_set ?_ GE223.out)|exact HB.out)) hb);clear BK223;clear HB;have BK223:=n0_;have HB:=n1_;clear n0_ n1_;(try clear hb);(try clear hb2);(try clear hk);(try clear hi)));try go_wp2_with (first|((with_reducible refine gate_dst (N:=1) rfl ?_);refine box_event ?hg (N:=1) ?hd (cs:=#[.string a0_0,.string a0_1,.int .i64 a0_2]) (t:=23) ?hr ?_;(case hd => rfl);(case hg => rfl);(case hr => first|(go_simp;done)|(go_simp;rfl));intro gb223 hg w19 hbox hb;have n0_:=Aside0.mk (below_step (by repeat (first|(with_reducible first|exact HB.out|apply below_alloc|apply pw_below_drewN|apply below_drew1)|exact HB.out)) hb);have n1_:=Aside0.mk (hbox);have n2_:=Aside0.mk ((by rw [hg];exact (below_size (by repeat (first|(with_reducible first|exact HB.out|apply below_alloc|apply pw_below_drewN|apply below_drew1)|exact HB.out))) : w.heap.size ≤ gb223));have n3_:=Aside0.mk ((by rw [hg];exact (below_size (by repeat (first|(with_reducible first|exact HB.out|apply below_alloc|apply pw_below_drewN|apply below_drew1)|exact HB.out))) : w.heap.size ≤ gb223));clear HB;have HB:=n0_;have BK223:=n1_;have GW223:=n2_;have GE223:=n3_;clear n0_ n1_ n2_ n3_;clear hb hbox hg;have hcz20_0 : w19.cell? ⟨gb223,0,none⟩ = some (.string a0_0):=(blk_cell BK223.out 0).trans rfl;have hcz20_1 : w19.cell? ⟨gb223,1,none⟩ = some (.string a0_1):=(blk_cell BK223.out 1).trans rfl;have hcz20_2 : w19.cell? ⟨gb223,2,none⟩ = some (.int .i64 a0_2):=(blk_cell BK223.out 2).trans rfl;have hfz20_0:=blk_frozen BK223.out 0;have hfz20_1:=blk_frozen BK223.out 1;have hfz20_2:=blk_frozen BK223.out 2)|(go_at_call 22;(with_reducible refine (lockkeeperref3_Check.calls k a0_0 a0_1 a0_2 false _ A2.out).mono ?_);rintro e w21 ⟨rfl,hb⟩;have n0_:=Aside0.mk (blk_below (g:=gb223) (o:=.cells #[.string a0_0,.string a0_1,.int .i64 a0_2] 23 (0,0)) (by (with_reducible repeat (first|refine blk_drewN ?_ _|refine blk_drew ?_|refine blk_alloc ?_ _));exact BK223.out) hb);have n1_:=Aside0.mk (below_step (by repeat (first|(with_reducible first|exact HB.out|apply below_alloc|apply pw_below_drewN|apply below_drew1|refine below_set ?_ GE223.out)|exact HB.out)) hb);clear BK223;clear HB;have BK223:=n0_;have HB:=n1_;clear n0_ n1_;(try clear hb);(try clear hb2);(try clear hk);(try clear hi))))
  go_ret
  exact ⟨by first|rfl|(simp [errW_none,errW_some] <;> rfl)|(simp [*,errW_none,errW_some] <;> rfl),by repeat (first|(with_reducible first|exact HB.out|apply below_alloc|apply pw_below_drewN|apply below_drew1|refine below_set ?_ GE223.out)|exact HB.out)⟩

/-! ### lockkeeperref4_dots: function 62 -/
def lockkeeperref4_dots.j0 : Nat → ByteArray → Bool → Option (Int)
 | 0,_,_ => none
 | k + 1,x6,x7 => if x7 = true then (some 1) else (if x6.toList = ([46,46] : List UInt8) then (some 2) else (if x6.toList = ([46,37,50,101] : List UInt8) then (some 2) else (if x6.toList = ([37,50,101,46] : List UInt8) then (some 2) else (if x6.toList = ([37,50,101,37,50,101] : List UInt8) then (some 2) else (some 0)))))
def lockkeeperref4_dots.f (k : Nat) (a0 : ByteArray) : Option (Int):=(lockkeeperref1_Lower.f a0).bind fun t227 => (if t227.toList = ([46] : List UInt8) then (lockkeeperref4_dots.j0 k t227 (t227.toList == ([46] : List UInt8))) else (lockkeeperref4_dots.j0 k t227 (t227.toList == ([37,50,101] : List UInt8))))
theorem lockkeeperref4_dots.mono_l : ∀ k,(∀ y0 y1,LeO (lockkeeperref4_dots.j0 k y0 y1) (lockkeeperref4_dots.j0 (k + 1) y0 y1))
 | 0 => fun _ _ r h => by simp [lockkeeperref4_dots.j0] at h
 | k + 1 => by
  have ih0:=lockkeeperref4_dots.mono_l k
  ·intro y0 y1
   unfold lockkeeperref4_dots.j0
   repeat' first
   | (with_reducible exact ih0 _ _)
   | (with_reducible exact LeO.refl _)
   | (with_reducible exact LeO.none _)
   | (with_reducible refine LeO.ite ?_ ?_)
   | (with_reducible refine LeO.bind ?_ (fun _ => ?_))
   | exact ih0 _ _
   | exact LeO.none _
   | refine LeO.ite ?_ ?_
   | refine LeO.bind ?_ (fun _ => ?_)
theorem lockkeeperref4_dots.mono : ∀ a0 k,LeO (lockkeeperref4_dots.f k a0) (lockkeeperref4_dots.f (k + 1) a0):=by
 intro a0 k
 have ih0:=lockkeeperref4_dots.mono_l k
 unfold lockkeeperref4_dots.f
 repeat' first
   | (with_reducible exact ih0 _ _)
   | (with_reducible exact LeO.refl _)
   | (with_reducible exact LeO.none _)
   | (with_reducible refine LeO.ite ?_ ?_)
   | (with_reducible refine LeO.bind ?_ (fun _ => ?_))
   | exact ih0 _ _
   | exact LeO.none _
   | refine LeO.ite ?_ ?_
   | refine LeO.bind ?_ (fun _ => ?_)
set_option maxHeartbeats 8000000 in
set_option maxRecDepth 100000 in
theorem lockkeeperref4_dots.calls (k : Nat) (a0 : ByteArray) (r : Int) (w : World) (h : lockkeeperref4_dots.f k a0 = some r) :
  Calls Tryd.prog 62 #[.string a0] w fun e w' => e = .returned (.int .i64 r) ∧ Below w.heap.size w w':=by
 have HB:=Aside0.mk (Below.refl w.heap.size w)
 have H : ((lockkeeperref1_Lower.f a0).bind fun t227 => (if t227.toList = ([46] : List UInt8) then (lockkeeperref4_dots.j0 k t227 (t227.toList == ([46] : List UInt8))) else (lockkeeperref4_dots.j0 k t227 (t227.toList == ([37,50,101] : List UInt8))))) = some r:=h
 clear h
 replace H:=Option.bind_eq_some_iff.mp H
 obtain ⟨t227,A20,H⟩:=H
 replace H : (if t227.toList = ([46] : List UInt8) then (lockkeeperref4_dots.j0 k t227 (t227.toList == ([46] : List UInt8))) else (lockkeeperref4_dots.j0 k t227 (t227.toList == ([37,50,101] : List UInt8)))) = some r:=H
 have A2:=Aside0.mk A20
 clear A20
 have HC3:=Aside0.mk H
 clear H
 go_enter Tryd.func62,Tryd.ntmps62
 go_upto_if 7 with (first|((with_reducible refine gate_callee (f:=47) rfl ?_);refine goesL_ (some 5) rfl rfl Tryd.func47 (by kernel_rfl) rfl #[.string a0] rfl (by (try simp only [List.map_toArray,List.map_cons,List.map_nil]);first|done|rfl|(simp only [List.length_drop,List.length_take];rfl)) ?_;(with_reducible refine (lockkeeperref1_Lower.calls a0 t227 _ A2.out).mono ?_);rintro e w4 ⟨rfl,hb⟩;refine ⟨_,rfl,?_⟩;have n0_:=Aside0.mk (below_step (by repeat (first|(with_reducible first|exact HB.out|apply below_alloc|apply pw_below_drewN|apply below_drew1)|exact HB.out)) hb);clear HB;have HB:=n0_;clear n0_;(try clear hb);(try clear hb2);(try clear hk);(try clear hi)))
 (try simp only [Act.put,List.setIfInBounds_toArray,List.set_cons_zero,List.set_cons_succ])
 go_cut [7] (fun v7 wc => ∃ (kq : Nat) (x7_2 : Bool),v7 = .bool x7_2 ∧ Aside0 (lockkeeperref4_dots.j0 kq t227 x7_2 = some r) ∧ Aside0 (kq ≤ k) ∧ Aside0 (Below w.heap.size w wc))
 case first =>
  have H:=HC3.out
  clear HC3
  by_cases c5 : t227.toList = ([46] : List UInt8)
  ·rw [if_pos c5] at H
   have c5b0 : (t227.toList == ([46] : List UInt8)) = true:=beq_iff_eq.mpr c5
   have c5b1 : (t227.toList != ([46] : List UInt8)) = false:=bne_eq_false_iff_eq.mpr c5
   clear c5
   (first|rw [c5b0]|(simp only [i64_w,i32_w];rw [c5b0])|skip)
   have H':=Aside0.mk H
   clear H
   go_wp2
   go_meet
   case rel => exact ⟨_,((t227.toList == ([46] : List UInt8))),(by first|rfl|(simp;done)|(simp [*];done)),H',⟨by first|omega|exact Nat.le_refl _⟩,⟨by repeat (first|(with_reducible first|exact HB.out|apply below_alloc|apply pw_below_drewN|apply below_drew1)|exact HB.out)⟩⟩
  ·rw [if_neg c5] at H
   have c5b0 : (t227.toList == ([46] : List UInt8)) = false:=beq_eq_false_iff_ne.mpr c5
   have c5b1 : (t227.toList != ([46] : List UInt8)) = true:=bne_iff_ne.mpr c5
   (first|rw [c5b0]|(simp only [i64_w,i32_w];rw [c5b0])|skip)
   have H':=Aside0.mk H
   clear H
   go_wp2
   go_meet
   case rel => exact ⟨_,((t227.toList == ([37,50,101] : List UInt8))),(by first|rfl|(simp;done)|(simp [*];done)),H',⟨by first|omega|exact Nat.le_refl _⟩,⟨by repeat (first|(with_reducible first|exact HB.out|apply below_alloc|apply pw_below_drewN|apply below_drew1)|exact HB.out)⟩⟩
 case rest =>
  clear HC3
  try clear p2
  try clear c4
  try clear c5
  try clear c5b0
  try clear c5b1
  obtain ⟨kq,x7_2,rfl,HA,HJ2,HB⟩:=hcut
  cases kq with
  | zero => exact absurd HA.out (by simp [lockkeeperref4_dots.j0])
  | succ kj2 =>
   have H:=HA.out
   clear HA
   simp only [lockkeeperref4_dots.j0] at H
   by_cases c6 : x7_2 = true
   ·subst c6
    have H1 : (some 1) = some r:=by rw [if_pos rfl] at H;exact H
    clear H
    have H:=H1
    clear H1
    obtain rfl:=Option.some.inj H
    go_wp2
    go_ret
    exact ⟨by first|rfl|(simp [errW_none,errW_some] <;> rfl)|(simp [*,errW_none,errW_some] <;> rfl),by repeat (first|(with_reducible first|exact HB.out|apply below_alloc|apply pw_below_drewN|apply below_drew1)|exact HB.out)⟩
   ·replace c6:=Bool.eq_false_iff.mpr c6
    subst c6
    have H1 : (if t227.toList = ([46,46] : List UInt8) then (some 2) else (if t227.toList = ([46,37,50,101] : List UInt8) then (some 2) else (if t227.toList = ([37,50,101,46] : List UInt8) then (some 2) else (if t227.toList = ([37,50,101,37,50,101] : List UInt8) then (some 2) else (some 0))))) = some r:=by rw [if_neg (show ¬ (false = true) by decide)] at H;exact H
    clear H
    have H:=H1
    clear H1
    by_cases c7 : t227.toList = ([46,46] : List UInt8)
    ·rw [if_pos c7] at H
     have c7b0 : (t227.toList == ([46,46] : List UInt8)) = true:=beq_iff_eq.mpr c7
     have c7b1 : (t227.toList != ([46,46] : List UInt8)) = false:=bne_eq_false_iff_eq.mpr c7
     clear c7
     obtain rfl:=Option.some.inj H
     go_wp2
     go_ret
     exact ⟨by first|rfl|(simp [errW_none,errW_some] <;> rfl)|(simp [*,errW_none,errW_some] <;> rfl),by repeat (first|(with_reducible first|exact HB.out|apply below_alloc|apply pw_below_drewN|apply below_drew1)|exact HB.out)⟩
    ·rw [if_neg c7] at H
     have c7b0 : (t227.toList == ([46,46] : List UInt8)) = false:=beq_eq_false_iff_ne.mpr c7
     have c7b1 : (t227.toList != ([46,46] : List UInt8)) = true:=bne_iff_ne.mpr c7
     by_cases c8 : t227.toList = ([46,37,50,101] : List UInt8)
     ·rw [if_pos c8] at H
      have c8b0 : (t227.toList == ([46,37,50,101] : List UInt8)) = true:=beq_iff_eq.mpr c8
      have c8b1 : (t227.toList != ([46,37,50,101] : List UInt8)) = false:=bne_eq_false_iff_eq.mpr c8
      clear c8
      obtain rfl:=Option.some.inj H
      go_wp2
      go_ret
      exact ⟨by first|rfl|(simp [errW_none,errW_some] <;> rfl)|(simp [*,errW_none,errW_some] <;> rfl),by repeat (first|(with_reducible first|exact HB.out|apply below_alloc|apply pw_below_drewN|apply below_drew1)|exact HB.out)⟩
     ·rw [if_neg c8] at H
      have c8b0 : (t227.toList == ([46,37,50,101] : List UInt8)) = false:=beq_eq_false_iff_ne.mpr c8
      have c8b1 : (t227.toList != ([46,37,50,101] : List UInt8)) = true:=bne_iff_ne.mpr c8
      by_cases c9 : t227.toList = ([37,50,101,46] : List UInt8)
      ·rw [if_pos c9] at H
       have c9b0 : (t227.toList == ([37,50,101,46] : List UInt8)) = true:=beq_iff_eq.mpr c9
       have c9b1 : (t227.toList != ([37,50,101,46] : List UInt8)) = false:=bne_eq_false_iff_eq.mpr c9
       clear c9
       obtain rfl:=Option.some.inj H
       go_wp2
       go_ret
       exact ⟨by first|rfl|(simp [errW_none,errW_some] <;> rfl)|(simp [*,errW_none,errW_some] <;> rfl),by repeat (first|(with_reducible first|exact HB.out|apply below_alloc|apply pw_below_drewN|apply below_drew1)|exact HB.out)⟩
      ·rw [if_neg c9] at H
       have c9b0 : (t227.toList == ([37,50,101,46] : List UInt8)) = false:=beq_eq_false_iff_ne.mpr c9
       have c9b1 : (t227.toList != ([37,50,101,46] : List UInt8)) = true:=bne_iff_ne.mpr c9
       by_cases c10 : t227.toList = ([37,50,101,37,50,101] : List UInt8)
       ·rw [if_pos c10] at H
        have c10b0 : (t227.toList == ([37,50,101,37,50,101] : List UInt8)) = true:=beq_iff_eq.mpr c10
        have c10b1 : (t227.toList != ([37,50,101,37,50,101] : List UInt8)) = false:=bne_eq_false_iff_eq.mpr c10
        clear c10
        obtain rfl:=Option.some.inj H
        go_wp2
        go_ret
        exact ⟨by first|rfl|(simp [errW_none,errW_some] <;> rfl)|(simp [*,errW_none,errW_some] <;> rfl),by repeat (first|(with_reducible first|exact HB.out|apply below_alloc|apply pw_below_drewN|apply below_drew1)|exact HB.out)⟩
       ·rw [if_neg c10] at H
        have c10b0 : (t227.toList == ([37,50,101,37,50,101] : List UInt8)) = false:=beq_eq_false_iff_ne.mpr c10
        have c10b1 : (t227.toList != ([37,50,101,37,50,101] : List UInt8)) = true:=bne_iff_ne.mpr c10
        obtain rfl:=Option.some.inj H
        go_wp2
        go_ret
        exact ⟨by first|rfl|(simp [errW_none,errW_some] <;> rfl)|(simp [*,errW_none,errW_some] <;> rfl),by repeat (first|(with_reducible first|exact HB.out|apply below_alloc|apply pw_below_drewN|apply below_drew1)|exact HB.out)⟩

end Go.Proofs.YtbfbidifodcedaaDoor.Pr
