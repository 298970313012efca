-- Made by a program of this session (wip/xp/xp.py), over the print's words.
import Derived.Test.YtbfbidifodcedaaDoorPr0
import Derived.Test.YtbfbidifodcedaaDoorPr6
import Derived.Test.YtbfbidifodcedaaDoorPr7
import Derived.Test.YtbfbidifodcedaaDoorPr8
namespace Go.Proofs.YtbfbidifodcedaaDoor.Pr
open Go.RowKit Go.Proofs.YtbfbidifodcedaaDoorW.PrintWords Go.Proofs.YtbfbidifodcedaaDoorW.PrintLast Go.Proofs.YtbfbidifodcedaaDoorW.PrintMore
attribute [local go_sem] max2_int min2_int max_two min_two max_three min_three max_four min_four   -- for this text's walks alone
set_option linter.unusedVariables false
set_option linter.unusedSimpArgs false

abbrev lockkeeperref4_Parse_b0 : Array Bool:=#[false,false,false,false,false,false,false,false,false,false,false,false]
abbrev lockkeeperref4_Parse_b1 : Array Bool:=#[false,false,false,true,false,false,false,false,false,false,false,false]
abbrev lockkeeperref4_Parse_b2 : Array Bool:=#[false,false,false,true,false,false,false,true,false,false,false,false]
abbrev lockkeeperref4_Parse_b3 : Array Bool:=#[true,false,false,true,false,false,false,true,false,false,false,false]
abbrev lockkeeperref4_Parse_b4 : Array Bool:=#[true,false,false,true,true,false,false,true,false,false,false,false]
abbrev lockkeeperref4_Parse_b5 : Array Bool:=#[true,false,false,true,true,true,false,true,false,false,false,false]
abbrev lockkeeperref4_Parse_b6 : Array Bool:=#[true,false,false,true,true,true,false,true,true,false,false,false]
abbrev lockkeeperref4_Parse_b7 : Array Bool:=#[true,false,false,true,true,true,false,true,true,true,false,false]
abbrev lockkeeperref4_Parse_b8 : Array Bool:=#[true,true,false,true,true,true,false,true,true,true,false,false]
abbrev lockkeeperref4_Parse_b9 : Array Bool:=#[true,true,true,true,true,true,false,true,true,true,false,false]
abbrev lockkeeperref4_Parse_b10 : Array Bool:=#[true,true,true,true,true,true,true,true,true,true,false,false]
abbrev lockkeeperref4_Parse_b11 : Array Bool:=#[true,true,true,true,true,true,true,true,true,true,true,false]
abbrev lockkeeperref4_Parse_b12 : Array Bool:=#[true,true,true,true,true,true,true,true,true,true,true,true]
/-! ### lockkeeperref4_Parse: function 35 -/
mutual
def lockkeeperref4_Parse.l0 : Nat → Int → ByteArray → ByteArray → Int → ByteArray → ByteArray → Int → ByteArray → ByteArray → Option (ByteArray × ByteArray × Int × ByteArray × ByteArray × Int)
 | 0,_,_,_,_,_,_,_,_,_ => none
 | k + 1,x10,x255000,x255001,x255002,x257000,x257001,x257002,x257003,x257004 => if x10 < (x257003.size : Int) then (if 0 ≤ x10 then ((lockkeeperref4_pathByte.f k (bt x257003 x10)).bind fun t257 => (if t257 = true then (lockkeeperref4_Parse.l0 k (wrap64 (x10 + 1)) x255000 x255001 x255002 x257000 x257001 x257002 x257003 x257004) else (some ((⟨#[]⟩ : ByteArray),(⟨#[]⟩ : ByteArray),0,(⟨#[]⟩ : ByteArray),(⟨#[]⟩ : ByteArray),3)))) else (none)) else (lockkeeperref4_Parse.l1 k 1 x255000 x255001 x255002 x257000 x257001 x257002 x257003 x257004)
def lockkeeperref4_Parse.l1 : Nat → Int → ByteArray → ByteArray → Int → ByteArray → ByteArray → Int → ByteArray → ByteArray → Option (ByteArray × ByteArray × Int × ByteArray × ByteArray × Int)
 | 0,_,_,_,_,_,_,_,_,_ => none
 | k + 1,x11,x255000,x255001,x255002,x257000,x257001,x257002,x257003,x257004 => if x11 < (x257004.size : Int) then (if 0 ≤ x11 then ((lockkeeperref4_queryByte.f k (bt x257004 x11)).bind fun t258 => (if t258 = true then (lockkeeperref4_Parse.l1 k (wrap64 (x11 + 1)) x255000 x255001 x255002 x257000 x257001 x257002 x257003 x257004) else (some ((⟨#[]⟩ : ByteArray),(⟨#[]⟩ : ByteArray),0,(⟨#[]⟩ : ByteArray),(⟨#[]⟩ : ByteArray),3)))) else (none)) else ((lockkeeperref4_Clean.f k x257003).bind fun t259 => ((lockkeeperref3_Show.f k x255000 x255001 x255002).bind fun t260 => (if (wrap64 ((wrap64 ((t260.size : Int) + (t259.size : Int))) + (x257004.size : Int))) > 512 then (some ((⟨#[]⟩ : ByteArray),(⟨#[]⟩ : ByteArray),0,(⟨#[]⟩ : ByteArray),(⟨#[]⟩ : ByteArray),4)) else (some (x257000,x257001,x257002,t259,x257004,0)))))
end
def lockkeeperref4_Parse.f (k : Nat) (a0 : ByteArray) : Option (ByteArray × ByteArray × Int × ByteArray × ByteArray × Int):=if (a0.size : Int) > 512 then (some ((⟨#[]⟩ : ByteArray),(⟨#[]⟩ : ByteArray),0,(⟨#[]⟩ : ByteArray),(⟨#[]⟩ : ByteArray),4)) else ((lockkeeperref4_first.f k a0 0 (⟨#[35]⟩ : ByteArray)).bind fun t247 => (if 0 ≤ t247 then (if t247 ≤ (a0.size : Int) then ((lockkeeperref3_Behind.f k (a0.extract 0 (t247 : Int).toNat)).bind fun t248 => (if t248 < 0 then (some ((⟨#[]⟩ : ByteArray),(⟨#[]⟩ : ByteArray),0,(⟨#[]⟩ : ByteArray),(⟨#[]⟩ : ByteArray),3)) else ((lockkeeperref4_first.f k (a0.extract 0 (t247 : Int).toNat) (wrap64 (t248 + 3)) (⟨#[47,63]⟩ : ByteArray)).bind fun t249 => (if 0 ≤ t249 then (if t249 ≤ ((a0.extract 0 (t247 : Int).toNat).size : Int) then ((lockkeeperref3_Parse.f k ((a0.extract 0 (t247 : Int).toNat).extract 0 (t249 : Int).toNat)).bind fun bt250 => (if bt250.2.2.2 = 0 then ((lockkeeperref4_first.f k (a0.extract 0 (t247 : Int).toNat) t249 (⟨#[63]⟩ : ByteArray)).bind fun t255 => (if t249 ≤ t255 then (if t255 ≤ ((a0.extract 0 (t247 : Int).toNat).size : Int) then (if 0 ≤ t255 then (lockkeeperref4_Parse.l0 k 0 bt250.1 bt250.2.1 bt250.2.2.1 bt250.1 bt250.2.1 bt250.2.2.1 ((a0.extract 0 (t247 : Int).toNat).extract (t249 : Int).toNat (t255 : Int).toNat) ((a0.extract 0 (t247 : Int).toNat).extract (t255 : Int).toNat (a0.extract 0 (t247 : Int).toNat).size)) else (none)) else (none)) else (none))) else (some ((⟨#[]⟩ : ByteArray),(⟨#[]⟩ : ByteArray),0,(⟨#[]⟩ : ByteArray),(⟨#[]⟩ : ByteArray),bt250.2.2.2)))) else (none)) else (none))))) else (none)) else (none)))
theorem lockkeeperref4_Parse.mono_l : ∀ k,(∀ y0 y1 y2 y3 y4 y5 y6 y7 y8,LeO (lockkeeperref4_Parse.l0 k y0 y1 y2 y3 y4 y5 y6 y7 y8) (lockkeeperref4_Parse.l0 (k + 1) y0 y1 y2 y3 y4 y5 y6 y7 y8)) ∧ (∀ y0 y1 y2 y3 y4 y5 y6 y7 y8,LeO (lockkeeperref4_Parse.l1 k y0 y1 y2 y3 y4 y5 y6 y7 y8) (lockkeeperref4_Parse.l1 (k + 1) y0 y1 y2 y3 y4 y5 y6 y7 y8))
 | 0 => ⟨fun _ _ _ _ _ _ _ _ _ r h => by simp [lockkeeperref4_Parse.l0] at h,fun _ _ _ _ _ _ _ _ _ r h => by simp [lockkeeperref4_Parse.l1] at h⟩
 | k + 1 => by
  obtain ⟨ih0,ih1⟩:=lockkeeperref4_Parse.mono_l k
  refine ⟨?_,?_⟩
  ·intro y0 y1 y2 y3 y4 y5 y6 y7 y8
   unfold lockkeeperref4_Parse.l0
   repeat' first
   | (with_reducible exact ih0 _ _ _ _ _ _ _ _ _)
   | (with_reducible exact ih1 _ _ _ _ _ _ _ _ _)
   | (with_reducible exact lockkeeperref3_Behind.mono _ _)
   | (with_reducible exact lockkeeperref3_Parse.mono _ _)
   | (with_reducible exact lockkeeperref3_Show.mono _ _ _ _)
   | (with_reducible exact lockkeeperref4_Clean.mono _ _)
   | (with_reducible exact lockkeeperref4_first.mono _ _ _ _)
   | (with_reducible exact lockkeeperref4_pathByte.mono _ _)
   | (with_reducible exact lockkeeperref4_queryByte.mono _ _)
   | (with_reducible exact LeO.refl _)
   | (with_reducible exact LeO.none _)
   | (with_reducible refine LeO.ite ?_ ?_)
   | (with_reducible refine LeO.bind ?_ (fun _ => ?_))
   | exact ih0 _ _ _ _ _ _ _ _ _
   | exact ih1 _ _ _ _ _ _ _ _ _
   | exact lockkeeperref3_Behind.mono _ _
   | exact lockkeeperref3_Parse.mono _ _
   | exact lockkeeperref3_Show.mono _ _ _ _
   | exact lockkeeperref4_Clean.mono _ _
   | exact lockkeeperref4_first.mono _ _ _ _
   | exact lockkeeperref4_pathByte.mono _ _
   | exact lockkeeperref4_queryByte.mono _ _
   | exact LeO.none _
   | refine LeO.ite ?_ ?_
   | refine LeO.bind ?_ (fun _ => ?_)
  ·intro y0 y1 y2 y3 y4 y5 y6 y7 y8
   unfold lockkeeperref4_Parse.l1
   repeat' first
   | (with_reducible exact ih0 _ _ _ _ _ _ _ _ _)
   | (with_reducible exact ih1 _ _ _ _ _ _ _ _ _)
   | (with_reducible exact lockkeeperref3_Behind.mono _ _)
   | (with_reducible exact lockkeeperref3_Parse.mono _ _)
   | (with_reducible exact lockkeeperref3_Show.mono _ _ _ _)
   | (with_reducible exact lockkeeperref4_Clean.mono _ _)
   | (with_reducible exact lockkeeperref4_first.mono _ _ _ _)
   | (with_reducible exact lockkeeperref4_pathByte.mono _ _)
   | (with_reducible exact lockkeeperref4_queryByte.mono _ _)
   | (with_reducible exact LeO.refl _)
   | (with_reducible exact LeO.none _)
   | (with_reducible refine LeO.ite ?_ ?_)
   | (with_reducible refine LeO.bind ?_ (fun _ => ?_))
   | exact ih0 _ _ _ _ _ _ _ _ _
   | exact ih1 _ _ _ _ _ _ _ _ _
   | exact lockkeeperref3_Behind.mono _ _
   | exact lockkeeperref3_Parse.mono _ _
   | exact lockkeeperref3_Show.mono _ _ _ _
   | exact lockkeeperref4_Clean.mono _ _
   | exact lockkeeperref4_first.mono _ _ _ _
   | exact lockkeeperref4_pathByte.mono _ _
   | exact lockkeeperref4_queryByte.mono _ _
   | exact LeO.none _
   | refine LeO.ite ?_ ?_
   | refine LeO.bind ?_ (fun _ => ?_)
theorem lockkeeperref4_Parse.mono : ∀ a0 k,LeO (lockkeeperref4_Parse.f k a0) (lockkeeperref4_Parse.f (k + 1) a0):=by
 intro a0 k
 obtain ⟨ih0,ih1⟩:=lockkeeperref4_Parse.mono_l k
 unfold lockkeeperref4_Parse.f
 repeat' first
   | (with_reducible exact ih0 _ _ _ _ _ _ _ _ _)
   | (with_reducible exact ih1 _ _ _ _ _ _ _ _ _)
   | (with_reducible exact lockkeeperref3_Behind.mono _ _)
   | (with_reducible exact lockkeeperref3_Parse.mono _ _)
   | (with_reducible exact lockkeeperref3_Show.mono _ _ _ _)
   | (with_reducible exact lockkeeperref4_Clean.mono _ _)
   | (with_reducible exact lockkeeperref4_first.mono _ _ _ _)
   | (with_reducible exact lockkeeperref4_pathByte.mono _ _)
   | (with_reducible exact lockkeeperref4_queryByte.mono _ _)
   | (with_reducible exact LeO.refl _)
   | (with_reducible exact LeO.none _)
   | (with_reducible refine LeO.ite ?_ ?_)
   | (with_reducible refine LeO.bind ?_ (fun _ => ?_))
   | exact ih0 _ _ _ _ _ _ _ _ _
   | exact ih1 _ _ _ _ _ _ _ _ _
   | exact lockkeeperref3_Behind.mono _ _
   | exact lockkeeperref3_Parse.mono _ _
   | exact lockkeeperref3_Show.mono _ _ _ _
   | exact lockkeeperref4_Clean.mono _ _
   | exact lockkeeperref4_first.mono _ _ _ _
   | exact lockkeeperref4_pathByte.mono _ _
   | exact lockkeeperref4_queryByte.mono _ _
   | exact LeO.none _
   | refine LeO.ite ?_ ?_
   | refine LeO.bind ?_ (fun _ => ?_)
def lockkeeperref4_Parse.T12 : Bool × List (List Nat × List Nat):=(true,[([],[]),([],[]),([],[]),([],[]),([1,2,3],[1,2,3]),([],[]),([],[]),([5,6],[5,6]),([0,4,7],[0,4,7]),([],[]),([9,8,0,1,2,3,4,5,6,7,8,9],[8,9])])
def lockkeeperref4_Parse.B12 : List Nat:=[0,0,0,0,14,0,0,96,255,0,1023]
theorem lockkeeperref4_Parse.tab12 : rtab .any (opsOf Tryd.f35 12) = lockkeeperref4_Parse.T12:=by kernel_rfl
theorem lockkeeperref4_Parse.bits12 : waitsOk lockkeeperref4_Parse.T12.2 lockkeeperref4_Parse.B12 = true:=by kernel_rfl
def lockkeeperref4_Parse.T24 : Bool × List (List Nat × List Nat):=(true,[([],[]),([0],[0]),([1],[1]),([],[]),([3],[3]),([4],[4]),([2,5],[2,5]),([],[]),([7],[7]),([8],[8]),([6,9],[6,9]),([10],[10])])
def lockkeeperref4_Parse.B24 : List Nat:=[0,1,3,0,8,24,63,0,128,384,1023,2047]
theorem lockkeeperref4_Parse.tab24 : rtab .any (opsOf Tryd.f35 24) = lockkeeperref4_Parse.T24:=by kernel_rfl
theorem lockkeeperref4_Parse.bits24 : waitsOk lockkeeperref4_Parse.T24.2 lockkeeperref4_Parse.B24 = true:=by kernel_rfl
set_option maxHeartbeats 8000000 in
set_option maxRecDepth 100000 in
theorem lockkeeperref4_Parse.calls (k : Nat) (a0 : ByteArray) (r1 : ByteArray) (r2 : ByteArray) (r3 : Int) (r4 : ByteArray) (r5 : ByteArray) (r6 : Int) (w : World) (h : lockkeeperref4_Parse.f k a0 = some (r1,r2,r3,r4,r5,r6)) :
  Calls Tryd.prog 35 #[.string a0] w fun e w' => e = .returned (.tuple #[.agg #[.string r1,.string r2,.int .i64 r3,.string r4,.string r5],.int .i64 r6]) ∧ Below w.heap.size w w':=by
 have hu44:=Tryd.underlying44
 have hu23:=Tryd.underlying23
 have HB:=Aside0.mk (Below.refl w.heap.size w)
 have H : (if (a0.size : Int) > 512 then (some ((⟨#[]⟩ : ByteArray),(⟨#[]⟩ : ByteArray),0,(⟨#[]⟩ : ByteArray),(⟨#[]⟩ : ByteArray),4)) else ((lockkeeperref4_first.f k a0 0 (⟨#[35]⟩ : ByteArray)).bind fun t247 => (if 0 ≤ t247 then (if t247 ≤ (a0.size : Int) then ((lockkeeperref3_Behind.f k (a0.extract 0 (t247 : Int).toNat)).bind fun t248 => (if t248 < 0 then (some ((⟨#[]⟩ : ByteArray),(⟨#[]⟩ : ByteArray),0,(⟨#[]⟩ : ByteArray),(⟨#[]⟩ : ByteArray),3)) else ((lockkeeperref4_first.f k (a0.extract 0 (t247 : Int).toNat) (wrap64 (t248 + 3)) (⟨#[47,63]⟩ : ByteArray)).bind fun t249 => (if 0 ≤ t249 then (if t249 ≤ ((a0.extract 0 (t247 : Int).toNat).size : Int) then ((lockkeeperref3_Parse.f k ((a0.extract 0 (t247 : Int).toNat).extract 0 (t249 : Int).toNat)).bind fun bt250 => (if bt250.2.2.2 = 0 then ((lockkeeperref4_first.f k (a0.extract 0 (t247 : Int).toNat) t249 (⟨#[63]⟩ : ByteArray)).bind fun t255 => (if t249 ≤ t255 then (if t255 ≤ ((a0.extract 0 (t247 : Int).toNat).size : Int) then (if 0 ≤ t255 then (lockkeeperref4_Parse.l0 k 0 bt250.1 bt250.2.1 bt250.2.2.1 bt250.1 bt250.2.1 bt250.2.2.1 ((a0.extract 0 (t247 : Int).toNat).extract (t249 : Int).toNat (t255 : Int).toNat) ((a0.extract 0 (t247 : Int).toNat).extract (t255 : Int).toNat (a0.extract 0 (t247 : Int).toNat).size)) else (none)) else (none)) else (none))) else (some ((⟨#[]⟩ : ByteArray),(⟨#[]⟩ : ByteArray),0,(⟨#[]⟩ : ByteArray),(⟨#[]⟩ : ByteArray),bt250.2.2.2)))) else (none)) else (none))))) else (none)) else (none)))) = some (r1,r2,r3,r4,r5,r6):=h
 clear h
 by_cases c2 : (a0.size : Int) > 512
 ·rw [if_pos c2] at H
  have c2b0 : decide (512 < (a0.size : Int)) = true:=decide_eq_true c2
  have c2b1 : decide (512 < a0.size) = true:=decide_eq_true (by omega)
  clear c2
  simp only [Option.some.injEq,Prod.mk.injEq] at H
  obtain ⟨rfl,rfl,rfl,rfl,rfl,rfl⟩:=H
  go_enter Tryd.func35,Tryd.ntmps35
  go_wp2_with (first|((with_reducible refine gate_dst (N:=2) rfl ?_);refine box_event ?hg (N:=2) ?hd (cs:=#[.string (⟨#[]⟩ : ByteArray),.string (⟨#[]⟩ : ByteArray),.int .i64 0,.string (⟨#[]⟩ : ByteArray),.string (⟨#[]⟩ : ByteArray)]) (t:=44) ?hr ?_;(case hd => rfl);(case hg => rfl);(case hr => first|(go_simp;done)|(go_simp;rfl));intro gb246 hg w3 hbox hb;have n0_:=Aside0.mk (below_step (by repeat (first|(with_reducible first|exact HB.out|apply below_alloc|apply pw_below_drewN|apply below_drew1)|exact HB.out)) hb);have n1_:=Aside0.mk (hbox);have n2_:=Aside0.mk ((by rw [hg];exact (below_size (by repeat (first|(with_reducible first|exact HB.out|apply below_alloc|apply pw_below_drewN|apply below_drew1)|exact HB.out))) : w.heap.size ≤ gb246));have n3_:=Aside0.mk ((by rw [hg];exact (below_size (by repeat (first|(with_reducible first|exact HB.out|apply below_alloc|apply pw_below_drewN|apply below_drew1)|exact HB.out))) : w.heap.size ≤ gb246));clear HB;have HB:=n0_;have BK246:=n1_;have GW246:=n2_;have GE246:=n3_;clear n0_ n1_ n2_ n3_;clear hb hbox hg;have hcz4_0 : w3.cell? ⟨gb246,0,none⟩ = some (.string (⟨#[]⟩ : ByteArray)):=(blk_cell BK246.out 0).trans rfl;have hcz4_1 : w3.cell? ⟨gb246,1,none⟩ = some (.string (⟨#[]⟩ : ByteArray)):=(blk_cell BK246.out 1).trans rfl;have hcz4_2 : w3.cell? ⟨gb246,2,none⟩ = some (.int .i64 0):=(blk_cell BK246.out 2).trans rfl;have hcz4_3 : w3.cell? ⟨gb246,3,none⟩ = some (.string (⟨#[]⟩ : ByteArray)):=(blk_cell BK246.out 3).trans rfl;have hcz4_4 : w3.cell? ⟨gb246,4,none⟩ = some (.string (⟨#[]⟩ : ByteArray)):=(blk_cell BK246.out 4).trans rfl;have hfz4_0:=blk_frozen BK246.out 0;have hfz4_1:=blk_frozen BK246.out 1;have hfz4_2:=blk_frozen BK246.out 2;have hfz4_3:=blk_frozen BK246.out 3;have hfz4_4:=blk_frozen BK246.out 4))
  refine bodyPost_ret (results_ct rfl _ _ gb246 44 #[.string (⟨#[]⟩ : ByteArray),.string (⟨#[]⟩ : ByteArray),.int .i64 0,.string (⟨#[]⟩ : ByteArray),.string (⟨#[]⟩ : ByteArray)] (0,0) _ rfl (by (with_reducible repeat (first|refine blk_drewN ?_ _|refine blk_drew ?_|refine blk_alloc ?_ _));refine blk_put (cs:=#[.string (⟨#[]⟩ : ByteArray),.string (⟨#[]⟩ : ByteArray),.int .i64 0,.string (⟨#[]⟩ : ByteArray),.string (⟨#[]⟩ : ByteArray)]) ?_ 4 _ rfl;(with_reducible repeat (first|refine blk_drewN ?_ _|refine blk_drew ?_|refine blk_alloc ?_ _));refine blk_put (cs:=#[.string (⟨#[]⟩ : ByteArray),.string (⟨#[]⟩ : ByteArray),.int .i64 0,.string (⟨#[]⟩ : ByteArray),.string (⟨#[]⟩ : ByteArray)]) ?_ 3 _ rfl;(with_reducible repeat (first|refine blk_drewN ?_ _|refine blk_drew ?_|refine blk_alloc ?_ _));refine blk_put (cs:=#[.string (⟨#[]⟩ : ByteArray),.string (⟨#[]⟩ : ByteArray),.int .i64 0,.string (⟨#[]⟩ : ByteArray),.string (⟨#[]⟩ : ByteArray)]) ?_ 2 _ rfl;(with_reducible repeat (first|refine blk_drewN ?_ _|refine blk_drew ?_|refine blk_alloc ?_ _));refine blk_put (cs:=#[.string (⟨#[]⟩ : ByteArray),.string (⟨#[]⟩ : ByteArray),.int .i64 0,.string (⟨#[]⟩ : ByteArray),.string (⟨#[]⟩ : ByteArray)]) ?_ 1 _ rfl;(with_reducible repeat (first|refine blk_drewN ?_ _|refine blk_drew ?_|refine blk_alloc ?_ _));refine blk_put (cs:=#[.string (⟨#[]⟩ : ByteArray),.string (⟨#[]⟩ : ByteArray),.int .i64 0,.string (⟨#[]⟩ : ByteArray),.string (⟨#[]⟩ : ByteArray)]) ?_ 0 _ rfl;(with_reducible repeat (first|refine blk_drewN ?_ _|refine blk_drew ?_|refine blk_alloc ?_ _));exact BK246.out) Tryd.underlying44 rfl (by kernel_rfl)) rfl ?_
  exact ⟨by first|rfl|(simp [errW_none,errW_some] <;> rfl)|(simp [*,errW_none,errW_some] <;> rfl),by repeat (first|(with_reducible first|exact HB.out|apply below_alloc|apply pw_below_drewN|apply below_drew1|refine below_set ?_ GE246.out)|exact HB.out)⟩
 ·rw [if_neg c2] at H
  have c2b0 : decide (512 < (a0.size : Int)) = false:=decide_eq_false c2
  have c2b1 : decide (512 < a0.size) = false:=decide_eq_false (by omega)
  clear c2
  replace H:=Option.bind_eq_some_iff.mp H
  obtain ⟨t247,A50,H⟩:=H
  replace H : (if 0 ≤ t247 then (if t247 ≤ (a0.size : Int) then ((lockkeeperref3_Behind.f k (a0.extract 0 (t247 : Int).toNat)).bind fun t248 => (if t248 < 0 then (some ((⟨#[]⟩ : ByteArray),(⟨#[]⟩ : ByteArray),0,(⟨#[]⟩ : ByteArray),(⟨#[]⟩ : ByteArray),3)) else ((lockkeeperref4_first.f k (a0.extract 0 (t247 : Int).toNat) (wrap64 (t248 + 3)) (⟨#[47,63]⟩ : ByteArray)).bind fun t249 => (if 0 ≤ t249 then (if t249 ≤ ((a0.extract 0 (t247 : Int).toNat).size : Int) then ((lockkeeperref3_Parse.f k ((a0.extract 0 (t247 : Int).toNat).extract 0 (t249 : Int).toNat)).bind fun bt250 => (if bt250.2.2.2 = 0 then ((lockkeeperref4_first.f k (a0.extract 0 (t247 : Int).toNat) t249 (⟨#[63]⟩ : ByteArray)).bind fun t255 => (if t249 ≤ t255 then (if t255 ≤ ((a0.extract 0 (t247 : Int).toNat).size : Int) then (if 0 ≤ t255 then (lockkeeperref4_Parse.l0 k 0 bt250.1 bt250.2.1 bt250.2.2.1 bt250.1 bt250.2.1 bt250.2.2.1 ((a0.extract 0 (t247 : Int).toNat).extract (t249 : Int).toNat (t255 : Int).toNat) ((a0.extract 0 (t247 : Int).toNat).extract (t255 : Int).toNat (a0.extract 0 (t247 : Int).toNat).size)) else (none)) else (none)) else (none))) else (some ((⟨#[]⟩ : ByteArray),(⟨#[]⟩ : ByteArray),0,(⟨#[]⟩ : ByteArray),(⟨#[]⟩ : ByteArray),bt250.2.2.2)))) else (none)) else (none))))) else (none)) else (none)) = some (r1,r2,r3,r4,r5,r6):=H
  have A5:=Aside0.mk A50
  clear A50
  by_cases c6 : 0 ≤ t247
  ·rw [if_pos c6] at H
   have c6b0:=eq_true c6
   have c6b1 : decide (0 ≤ t247) = true:=decide_eq_true c6
   clear c6
   by_cases c7 : t247 ≤ (a0.size : Int)
   ·rw [if_pos c7] at H
    have c7b0:=eq_true c7
    have c7b1 : decide (t247 ≤ (a0.size : Int)) = true:=decide_eq_true c7
    clear c7
    generalize hx1_ : a0.extract 0 (t247 : Int).toNat = x1_ at H
    replace H:=Option.bind_eq_some_iff.mp H
    obtain ⟨t248,A80,H⟩:=H
    replace H : (if t248 < 0 then (some ((⟨#[]⟩ : ByteArray),(⟨#[]⟩ : ByteArray),0,(⟨#[]⟩ : ByteArray),(⟨#[]⟩ : ByteArray),3)) else ((lockkeeperref4_first.f k x1_ (wrap64 (t248 + 3)) (⟨#[47,63]⟩ : ByteArray)).bind fun t249 => (if 0 ≤ t249 then (if t249 ≤ (x1_.size : Int) then ((lockkeeperref3_Parse.f k (x1_.extract 0 (t249 : Int).toNat)).bind fun bt250 => (if bt250.2.2.2 = 0 then ((lockkeeperref4_first.f k x1_ t249 (⟨#[63]⟩ : ByteArray)).bind fun t255 => (if t249 ≤ t255 then (if t255 ≤ (x1_.size : Int) then (if 0 ≤ t255 then (lockkeeperref4_Parse.l0 k 0 bt250.1 bt250.2.1 bt250.2.2.1 bt250.1 bt250.2.1 bt250.2.2.1 (x1_.extract (t249 : Int).toNat (t255 : Int).toNat) (x1_.extract (t255 : Int).toNat x1_.size)) else (none)) else (none)) else (none))) else (some ((⟨#[]⟩ : ByteArray),(⟨#[]⟩ : ByteArray),0,(⟨#[]⟩ : ByteArray),(⟨#[]⟩ : ByteArray),bt250.2.2.2)))) else (none)) else (none)))) = some (r1,r2,r3,r4,r5,r6):=H
    have A8:=Aside0.mk A80
    clear A80
    by_cases c9 : t248 < 0
    ·rw [if_pos c9] at H
     have c9b0 : decide (t248 < 0) = true:=decide_eq_true c9
     clear c9
     simp only [Option.some.injEq,Prod.mk.injEq] at H
     obtain ⟨rfl,rfl,rfl,rfl,rfl,rfl⟩:=H
     go_enter Tryd.func35,Tryd.ntmps35
     go_wp2_with (first|((with_reducible refine gate_dst (N:=2) rfl ?_);refine box_event ?hg (N:=2) ?hd (cs:=#[.string (⟨#[]⟩ : ByteArray),.string (⟨#[]⟩ : ByteArray),.int .i64 0,.string (⟨#[]⟩ : ByteArray),.string (⟨#[]⟩ : ByteArray)]) (t:=44) ?hr ?_;(case hd => rfl);(case hg => rfl);(case hr => first|(go_simp;done)|(go_simp;rfl));intro gb246 hg w10 hbox hb;have n0_:=Aside0.mk (below_step (by repeat (first|(with_reducible first|exact HB.out|apply below_alloc|apply pw_below_drewN|apply below_drew1)|exact HB.out)) hb);have n1_:=Aside0.mk (hbox);have n2_:=Aside0.mk ((by rw [hg];exact (below_size (by repeat (first|(with_reducible first|exact HB.out|apply below_alloc|apply pw_below_drewN|apply below_drew1)|exact HB.out))) : w.heap.size ≤ gb246));have n3_:=Aside0.mk ((by rw [hg];exact (below_size (by repeat (first|(with_reducible first|exact HB.out|apply below_alloc|apply pw_below_drewN|apply below_drew1)|exact HB.out))) : w.heap.size ≤ gb246));clear HB;have HB:=n0_;have BK246:=n1_;have GW246:=n2_;have GE246:=n3_;clear n0_ n1_ n2_ n3_;clear hb hbox hg)|((with_reducible refine gate_callee (f:=55) rfl ?_);refine goesL_ (some 18) rfl rfl Tryd.func55 (by kernel_rfl) rfl #[.string a0,.int .i64 0,.string (⟨#[35]⟩ : ByteArray)] rfl (by (try simp only [List.map_toArray,List.map_cons,List.map_nil]);first|done|rfl|(simp only [List.length_drop,List.length_take];rfl)) ?_;(with_reducible refine (lockkeeperref4_first.calls k a0 0 (⟨#[35]⟩ : ByteArray) t247 _ A5.out).mono ?_);rintro e w' ⟨rfl,⟨nd,rfl⟩⟩;refine ⟨_,rfl,?_⟩;(try (rw [drewN_self w10];generalize hq_ : World.drewN w10 _ = w10;have n0_ : Aside0 (w10.heap[gb246]? = some (.cells #[.string (⟨#[]⟩ : ByteArray),.string (⟨#[]⟩ : ByteArray),.int .i64 0,.string (⟨#[]⟩ : ByteArray),.string (⟨#[]⟩ : ByteArray)] 44 (0,0))):=⟨by rw [← hq_];exact (by (with_reducible repeat (first|refine blk_drewN ?_ _|refine blk_drew ?_|refine blk_alloc ?_ _));exact BK246.out)⟩;have n1_ : Aside0 (Below w.heap.size w w10):=⟨by rw [← hq_];exact (by repeat (first|(with_reducible first|exact HB.out|apply below_alloc|apply pw_below_drewN|apply below_drew1|refine below_set ?_ GE246.out)|exact HB.out))⟩;clear BK246 HB hq_;have BK246:=n0_;have HB:=n1_;clear n0_ n1_)))|((with_reducible refine gate_callee (f:=42) rfl ?_);refine goesL_ (some 21) rfl rfl Tryd.func42 (by kernel_rfl) rfl #[.string x1_] rfl (by (try simp only [List.map_toArray,List.map_cons,List.map_nil]);first|done|rfl|(simp only [List.length_drop,List.length_take];rfl)) ?_;(with_reducible refine (lockkeeperref3_Behind.calls k x1_ t248 _ A8.out).mono ?_);rintro e w' ⟨rfl,⟨nd,rfl⟩⟩;refine ⟨_,rfl,?_⟩;(try (rw [drewN_self w10];generalize hq_ : World.drewN w10 _ = w10;have n0_ : Aside0 (w10.heap[gb246]? = some (.cells #[.string (⟨#[]⟩ : ByteArray),.string (⟨#[]⟩ : ByteArray),.int .i64 0,.string (⟨#[]⟩ : ByteArray),.string (⟨#[]⟩ : ByteArray)] 44 (0,0))):=⟨by rw [← hq_];exact (by (with_reducible repeat (first|refine blk_drewN ?_ _|refine blk_drew ?_|refine blk_alloc ?_ _));exact BK246.out)⟩;have n1_ : Aside0 (Below w.heap.size w w10):=⟨by rw [← hq_];exact (by repeat (first|(with_reducible first|exact HB.out|apply below_alloc|apply pw_below_drewN|apply below_drew1|refine below_set ?_ GE246.out)|exact HB.out))⟩;clear BK246 HB hq_;have BK246:=n0_;have HB:=n1_;clear n0_ n1_));have hcz11_0 : w10.cell? ⟨gb246,0,none⟩ = some (.string (⟨#[]⟩ : ByteArray)):=(blk_cell BK246.out 0).trans rfl;have hcz11_1 : w10.cell? ⟨gb246,1,none⟩ = some (.string (⟨#[]⟩ : ByteArray)):=(blk_cell BK246.out 1).trans rfl;have hcz11_2 : w10.cell? ⟨gb246,2,none⟩ = some (.int .i64 0):=(blk_cell BK246.out 2).trans rfl;have hcz11_3 : w10.cell? ⟨gb246,3,none⟩ = some (.string (⟨#[]⟩ : ByteArray)):=(blk_cell BK246.out 3).trans rfl;have hcz11_4 : w10.cell? ⟨gb246,4,none⟩ = some (.string (⟨#[]⟩ : ByteArray)):=(blk_cell BK246.out 4).trans rfl;have hfz11_0:=blk_frozen BK246.out 0;have hfz11_1:=blk_frozen BK246.out 1;have hfz11_2:=blk_frozen BK246.out 2;have hfz11_3:=blk_frozen BK246.out 3;have hfz11_4:=blk_frozen BK246.out 4))
     refine bodyPost_ret (results_ct rfl _ _ gb246 44 #[.string (⟨#[]⟩ : ByteArray),.string (⟨#[]⟩ : ByteArray),.int .i64 0,.string (⟨#[]⟩ : ByteArray),.string (⟨#[]⟩ : ByteArray)] (0,0) _ rfl (by (with_reducible repeat (first|refine blk_drewN ?_ _|refine blk_drew ?_|refine blk_alloc ?_ _));refine blk_put (cs:=#[.string (⟨#[]⟩ : ByteArray),.string (⟨#[]⟩ : ByteArray),.int .i64 0,.string (⟨#[]⟩ : ByteArray),.string (⟨#[]⟩ : ByteArray)]) ?_ 4 _ rfl;(with_reducible repeat (first|refine blk_drewN ?_ _|refine blk_drew ?_|refine blk_alloc ?_ _));refine blk_put (cs:=#[.string (⟨#[]⟩ : ByteArray),.string (⟨#[]⟩ : ByteArray),.int .i64 0,.string (⟨#[]⟩ : ByteArray),.string (⟨#[]⟩ : ByteArray)]) ?_ 3 _ rfl;(with_reducible repeat (first|refine blk_drewN ?_ _|refine blk_drew ?_|refine blk_alloc ?_ _));refine blk_put (cs:=#[.string (⟨#[]⟩ : ByteArray),.string (⟨#[]⟩ : ByteArray),.int .i64 0,.string (⟨#[]⟩ : ByteArray),.string (⟨#[]⟩ : ByteArray)]) ?_ 2 _ rfl;(with_reducible repeat (first|refine blk_drewN ?_ _|refine blk_drew ?_|refine blk_alloc ?_ _));refine blk_put (cs:=#[.string (⟨#[]⟩ : ByteArray),.string (⟨#[]⟩ : ByteArray),.int .i64 0,.string (⟨#[]⟩ : ByteArray),.string (⟨#[]⟩ : ByteArray)]) ?_ 1 _ rfl;(with_reducible repeat (first|refine blk_drewN ?_ _|refine blk_drew ?_|refine blk_alloc ?_ _));refine blk_put (cs:=#[.string (⟨#[]⟩ : ByteArray),.string (⟨#[]⟩ : ByteArray),.int .i64 0,.string (⟨#[]⟩ : ByteArray),.string (⟨#[]⟩ : ByteArray)]) ?_ 0 _ rfl;(with_reducible repeat (first|refine blk_drewN ?_ _|refine blk_drew ?_|refine blk_alloc ?_ _));exact BK246.out) Tryd.underlying44 rfl (by kernel_rfl)) rfl ?_
     exact ⟨by first|rfl|(simp [errW_none,errW_some] <;> rfl)|(simp [*,errW_none,errW_some] <;> rfl),by repeat (first|(with_reducible first|exact HB.out|apply below_alloc|apply pw_below_drewN|apply below_drew1|refine below_set ?_ GE246.out)|exact HB.out)⟩
    ·rw [if_neg c9] at H
     have c9b0 : decide (t248 < 0) = false:=decide_eq_false c9
     clear c9
     replace H:=Option.bind_eq_some_iff.mp H
     obtain ⟨t249,A120,H⟩:=H
     replace H : (if 0 ≤ t249 then (if t249 ≤ (x1_.size : Int) then ((lockkeeperref3_Parse.f k (x1_.extract 0 (t249 : Int).toNat)).bind fun bt250 => (if bt250.2.2.2 = 0 then ((lockkeeperref4_first.f k x1_ t249 (⟨#[63]⟩ : ByteArray)).bind fun t255 => (if t249 ≤ t255 then (if t255 ≤ (x1_.size : Int) then (if 0 ≤ t255 then (lockkeeperref4_Parse.l0 k 0 bt250.1 bt250.2.1 bt250.2.2.1 bt250.1 bt250.2.1 bt250.2.2.1 (x1_.extract (t249 : Int).toNat (t255 : Int).toNat) (x1_.extract (t255 : Int).toNat x1_.size)) else (none)) else (none)) else (none))) else (some ((⟨#[]⟩ : ByteArray),(⟨#[]⟩ : ByteArray),0,(⟨#[]⟩ : ByteArray),(⟨#[]⟩ : ByteArray),bt250.2.2.2)))) else (none)) else (none)) = some (r1,r2,r3,r4,r5,r6):=H
     have A12:=Aside0.mk A120
     clear A120
     by_cases c13 : 0 ≤ t249
     ·rw [if_pos c13] at H
      have c13b0:=eq_true c13
      have c13b1 : decide (0 ≤ t249) = true:=decide_eq_true c13
      clear c13
      by_cases c14 : t249 ≤ (x1_.size : Int)
      ·rw [if_pos c14] at H
       have c14b0:=eq_true c14
       have c14b1 : decide (t249 ≤ (x1_.size : Int)) = true:=decide_eq_true c14
       clear c14
       replace H:=Option.bind_eq_some_iff.mp H
       obtain ⟨⟨t250,t251,t252,t253⟩,A150,H⟩:=H
       replace H : (if t253 = 0 then ((lockkeeperref4_first.f k x1_ t249 (⟨#[63]⟩ : ByteArray)).bind fun t255 => (if t249 ≤ t255 then (if t255 ≤ (x1_.size : Int) then (if 0 ≤ t255 then (lockkeeperref4_Parse.l0 k 0 t250 t251 t252 t250 t251 t252 (x1_.extract (t249 : Int).toNat (t255 : Int).toNat) (x1_.extract (t255 : Int).toNat x1_.size)) else (none)) else (none)) else (none))) else (some ((⟨#[]⟩ : ByteArray),(⟨#[]⟩ : ByteArray),0,(⟨#[]⟩ : ByteArray),(⟨#[]⟩ : ByteArray),t253))) = some (r1,r2,r3,r4,r5,r6):=H
       have A15:=Aside0.mk A150
       clear A150
       by_cases c16 : t253 = 0
       ·rw [if_pos c16] at H
        have c16b0 : (t253 == 0) = true:=beq_iff_eq.mpr c16
        have c16b1 : (t253 != 0) = false:=bne_eq_false_iff_eq.mpr c16
        clear c16
        replace H:=Option.bind_eq_some_iff.mp H
        obtain ⟨t255,A170,H⟩:=H
        replace H : (if t249 ≤ t255 then (if t255 ≤ (x1_.size : Int) then (if 0 ≤ t255 then (lockkeeperref4_Parse.l0 k 0 t250 t251 t252 t250 t251 t252 (x1_.extract (t249 : Int).toNat (t255 : Int).toNat) (x1_.extract (t255 : Int).toNat x1_.size)) else (none)) else (none)) else (none)) = some (r1,r2,r3,r4,r5,r6):=H
        have A17:=Aside0.mk A170
        clear A170
        have c18b0:=eq_true (of_decide_eq_true (by first|(with_reducible assumption)|assumption) : 0 ≤ t249)
        by_cases c19 : t249 ≤ t255
        ·rw [if_pos c19] at H
         have c19b0:=eq_true c19
         have c19b1 : decide (t249 ≤ t255) = true:=decide_eq_true c19
         clear c19
         by_cases c20 : t255 ≤ (x1_.size : Int)
         ·rw [if_pos c20] at H
          have c20b0:=eq_true c20
          have c20b1 : decide (t255 ≤ (x1_.size : Int)) = true:=decide_eq_true c20
          clear c20
          by_cases c21 : 0 ≤ t255
          ·rw [if_pos c21] at H
           have c21b0:=eq_true c21
           have c21b1 : decide (0 ≤ t255) = true:=decide_eq_true c21
           clear c21
           have c22b0:=eq_true (of_decide_eq_true (by first|(with_reducible assumption)|assumption) : t255 ≤ (x1_.size : Int))
           generalize hx2_ : x1_.extract (t249 : Int).toNat (t255 : Int).toNat = x2_ at H
           generalize hx3_ : x1_.extract (t255 : Int).toNat x1_.size = x3_ at H
           have H':=Aside0.mk H
           clear H
           go_enter Tryd.func35,Tryd.ntmps35
           try go_wp2_with (first|((with_reducible refine gate_dst (N:=2) rfl ?_);refine box_event ?hg (N:=2) ?hd (cs:=#[.string (⟨#[]⟩ : ByteArray),.string (⟨#[]⟩ : ByteArray),.int .i64 0,.string (⟨#[]⟩ : ByteArray),.string (⟨#[]⟩ : ByteArray)]) (t:=44) ?hr ?_;(case hd => rfl);(case hg => rfl);(case hr => first|(go_simp;done)|(go_simp;rfl));intro gb246 hg w23 hbox hb;have n0_:=Aside0.mk (below_step (by repeat (first|(with_reducible first|exact HB.out|apply below_alloc|apply pw_below_drewN|apply below_drew1)|exact HB.out)) hb);have n1_:=Aside0.mk (hbox);have n2_:=Aside0.mk ((by rw [hg];exact (below_size (by repeat (first|(with_reducible first|exact HB.out|apply below_alloc|apply pw_below_drewN|apply below_drew1)|exact HB.out))) : w.heap.size ≤ gb246));have n3_:=Aside0.mk ((by rw [hg];exact (below_size (by repeat (first|(with_reducible first|exact HB.out|apply below_alloc|apply pw_below_drewN|apply below_drew1)|exact HB.out))) : w.heap.size ≤ gb246));clear HB;have HB:=n0_;have BK246:=n1_;have GW246:=n2_;have GE246:=n3_;clear n0_ n1_ n2_ n3_;clear hb hbox hg)|((with_reducible refine gate_callee (f:=55) rfl ?_);refine goesL_ (some 18) rfl rfl Tryd.func55 (by kernel_rfl) rfl #[.string a0,.int .i64 0,.string (⟨#[35]⟩ : ByteArray)] rfl (by (try simp only [List.map_toArray,List.map_cons,List.map_nil]);first|done|rfl|(simp only [List.length_drop,List.length_take];rfl)) ?_;(with_reducible refine (lockkeeperref4_first.calls k a0 0 (⟨#[35]⟩ : ByteArray) t247 _ A5.out).mono ?_);rintro e w' ⟨rfl,⟨nd,rfl⟩⟩;refine ⟨_,rfl,?_⟩;(try (rw [drewN_self w23];generalize hq_ : World.drewN w23 _ = w23;have n0_ : Aside0 (w23.heap[gb246]? = some (.cells #[.string (⟨#[]⟩ : ByteArray),.string (⟨#[]⟩ : ByteArray),.int .i64 0,.string (⟨#[]⟩ : ByteArray),.string (⟨#[]⟩ : ByteArray)] 44 (0,0))):=⟨by rw [← hq_];exact (by (with_reducible repeat (first|refine blk_drewN ?_ _|refine blk_drew ?_|refine blk_alloc ?_ _));exact BK246.out)⟩;have n1_ : Aside0 (Below w.heap.size w w23):=⟨by rw [← hq_];exact (by repeat (first|(with_reducible first|exact HB.out|apply below_alloc|apply pw_below_drewN|apply below_drew1|refine below_set ?_ GE246.out)|exact HB.out))⟩;clear BK246 HB hq_;have BK246:=n0_;have HB:=n1_;clear n0_ n1_)))|((with_reducible refine gate_callee (f:=42) rfl ?_);refine goesL_ (some 21) rfl rfl Tryd.func42 (by kernel_rfl) rfl #[.string x1_] rfl (by (try simp only [List.map_toArray,List.map_cons,List.map_nil]);first|done|rfl|(simp only [List.length_drop,List.length_take];rfl)) ?_;(with_reducible refine (lockkeeperref3_Behind.calls k x1_ t248 _ A8.out).mono ?_);rintro e w' ⟨rfl,⟨nd,rfl⟩⟩;refine ⟨_,rfl,?_⟩;(try (rw [drewN_self w23];generalize hq_ : World.drewN w23 _ = w23;have n0_ : Aside0 (w23.heap[gb246]? = some (.cells #[.string (⟨#[]⟩ : ByteArray),.string (⟨#[]⟩ : ByteArray),.int .i64 0,.string (⟨#[]⟩ : ByteArray),.string (⟨#[]⟩ : ByteArray)] 44 (0,0))):=⟨by rw [← hq_];exact (by (with_reducible repeat (first|refine blk_drewN ?_ _|refine blk_drew ?_|refine blk_alloc ?_ _));exact BK246.out)⟩;have n1_ : Aside0 (Below w.heap.size w w23):=⟨by rw [← hq_];exact (by repeat (first|(with_reducible first|exact HB.out|apply below_alloc|apply pw_below_drewN|apply below_drew1|refine below_set ?_ GE246.out)|exact HB.out))⟩;clear BK246 HB hq_;have BK246:=n0_;have HB:=n1_;clear n0_ n1_)))|((with_reducible refine gate_callee (f:=55) rfl ?_);refine goesL_ (some 28) rfl rfl Tryd.func55 (by kernel_rfl) rfl #[.string x1_,.int .i64 (wrap64 (t248 + 3)),.string (⟨#[47,63]⟩ : ByteArray)] rfl (by (try simp only [List.map_toArray,List.map_cons,List.map_nil]);first|done|rfl|(simp only [List.length_drop,List.length_take];rfl)) ?_;(with_reducible refine (lockkeeperref4_first.calls k x1_ (wrap64 (t248 + 3)) (⟨#[47,63]⟩ : ByteArray) t249 _ A12.out).mono ?_);rintro e w' ⟨rfl,⟨nd,rfl⟩⟩;refine ⟨_,rfl,?_⟩;(try (rw [drewN_self w23];generalize hq_ : World.drewN w23 _ = w23;have n0_ : Aside0 (w23.heap[gb246]? = some (.cells #[.string (⟨#[]⟩ : ByteArray),.string (⟨#[]⟩ : ByteArray),.int .i64 0,.string (⟨#[]⟩ : ByteArray),.string (⟨#[]⟩ : ByteArray)] 44 (0,0))):=⟨by rw [← hq_];exact (by (with_reducible repeat (first|refine blk_drewN ?_ _|refine blk_drew ?_|refine blk_alloc ?_ _));exact BK246.out)⟩;have n1_ : Aside0 (Below w.heap.size w w23):=⟨by rw [← hq_];exact (by repeat (first|(with_reducible first|exact HB.out|apply below_alloc|apply pw_below_drewN|apply below_drew1|refine below_set ?_ GE246.out)|exact HB.out))⟩;clear BK246 HB hq_;have BK246:=n0_;have HB:=n1_;clear n0_ n1_)))|((with_reducible refine gate_callee (f:=20) rfl ?_);refine goesL_ (some 33) rfl rfl Tryd.func20 (by kernel_rfl) rfl #[.string (x1_.extract 0 (t249 : Int).toNat)] rfl (by (try simp only [List.map_toArray,List.map_cons,List.map_nil]);first|done|rfl|(simp only [List.length_drop,List.length_take];rfl)) ?_;(with_reducible refine (lockkeeperref3_Parse.calls k (x1_.extract 0 (t249 : Int).toNat) t250 t251 t252 t253 _ A15.out).mono ?_);rintro e w24 ⟨rfl,hb⟩;refine ⟨_,rfl,?_⟩;have n0_:=Aside0.mk (blk_below (g:=gb246) (o:=.cells #[.string (⟨#[]⟩ : ByteArray),.string (⟨#[]⟩ : ByteArray),.int .i64 0,.string (⟨#[]⟩ : ByteArray),.string (⟨#[]⟩ : ByteArray)] 44 (0,0)) (by (with_reducible repeat (first|refine blk_drewN ?_ _|refine blk_drew ?_|refine blk_alloc ?_ _));exact BK246.out) hb);have n1_:=Aside0.mk (below_step (by repeat (first|(with_reducible first|exact HB.out|apply below_alloc|apply pw_below_drewN|apply below_drew1|refine below_set ?_ GE246.out)|exact HB.out)) hb);clear BK246;clear HB;have BK246:=n0_;have HB:=n1_;clear n0_ n1_;(try clear hb);(try clear hb2);(try clear hk);(try clear hi))|((with_reducible refine gate_dst (N:=6) rfl ?_);refine box_event ?hg (N:=6) ?hd (cs:=#[.string (⟨#[]⟩ : ByteArray),.string (⟨#[]⟩ : ByteArray),.int .i64 0]) (t:=23) ?hr ?_;(case hd => rfl);(case hg => rfl);(case hr => first|(go_simp;done)|(go_simp;rfl));intro gb254 hg w25 hbox hb;have n0_:=Aside0.mk (blk_below (g:=gb246) (o:=.cells #[.string (⟨#[]⟩ : ByteArray),.string (⟨#[]⟩ : ByteArray),.int .i64 0,.string (⟨#[]⟩ : ByteArray),.string (⟨#[]⟩ : ByteArray)] 44 (0,0)) (by (with_reducible repeat (first|refine blk_drewN ?_ _|refine blk_drew ?_|refine blk_alloc ?_ _));exact BK246.out) hb);have n1_:=Aside0.mk (below_step (by repeat (first|(with_reducible first|exact HB.out|apply below_alloc|apply pw_below_drewN|apply below_drew1|refine below_set ?_ GE246.out)|exact HB.out)) hb);have n2_:=Aside0.mk (hbox);have n3_:=Aside0.mk ((by rw [hg];exact (below_size (by repeat (first|(with_reducible first|exact HB.out|apply below_alloc|apply pw_below_drewN|apply below_drew1|refine below_set ?_ GE246.out)|exact HB.out))) : w.heap.size ≤ gb254));have n4_:=Aside0.mk ((by rw [hg];exact (below_size (by repeat (first|(with_reducible first|exact HB.out|apply below_alloc|apply pw_below_drewN|apply below_drew1|refine below_set ?_ GE246.out)|exact HB.out))) : w.heap.size ≤ gb254));have n5_:=Aside0.mk ((by rw [hg];exact Nat.ne_of_lt (blk_lt (g:=gb246) (o:=.cells #[.string (⟨#[]⟩ : ByteArray),.string (⟨#[]⟩ : ByteArray),.int .i64 0,.string (⟨#[]⟩ : ByteArray),.string (⟨#[]⟩ : ByteArray)] 44 (0,0)) (by (with_reducible repeat (first|refine blk_drewN ?_ _|refine blk_drew ?_|refine blk_alloc ?_ _));exact BK246.out)) : gb246 ≠ gb254));have n6_:=Aside0.mk ((by rw [hg];exact Nat.ne_of_gt (blk_lt (g:=gb246) (o:=.cells #[.string (⟨#[]⟩ : ByteArray),.string (⟨#[]⟩ : ByteArray),.int .i64 0,.string (⟨#[]⟩ : ByteArray),.string (⟨#[]⟩ : ByteArray)] 44 (0,0)) (by (with_reducible repeat (first|refine blk_drewN ?_ _|refine blk_drew ?_|refine blk_alloc ?_ _));exact BK246.out)) : gb254 ≠ gb246));clear BK246;clear HB;have BK246:=n0_;have HB:=n1_;have BK254:=n2_;have GW254:=n3_;have GE254:=n4_;have NB246_254:=n5_;have NB254_246:=n6_;clear n0_ n1_ n2_ n3_ n4_ n5_ n6_;clear hb hbox hg;have hnb26:=NB254_246.out;have hnc26:=NB246_254.out;have hcz27_0 : w25.cell? ⟨gb254,0,none⟩ = some (.string (⟨#[]⟩ : ByteArray)):=(blk_cell BK254.out 0).trans rfl;have hcz27_1 : w25.cell? ⟨gb254,1,none⟩ = some (.string (⟨#[]⟩ : ByteArray)):=(blk_cell BK254.out 1).trans rfl;have hcz27_2 : w25.cell? ⟨gb254,2,none⟩ = some (.int .i64 0):=(blk_cell BK254.out 2).trans rfl;have hfz27_0:=blk_frozen BK254.out 0;have hfz27_1:=blk_frozen BK254.out 1;have hfz27_2:=blk_frozen BK254.out 2)|((with_reducible refine gate_callee (f:=55) rfl ?_);refine goesL_ (some 42) rfl rfl Tryd.func55 (by kernel_rfl) rfl #[.string x1_,.int .i64 t249,.string (⟨#[63]⟩ : ByteArray)] rfl (by (try simp only [List.map_toArray,List.map_cons,List.map_nil]);first|done|rfl|(simp only [List.length_drop,List.length_take];rfl)) ?_;(with_reducible refine (lockkeeperref4_first.calls k x1_ t249 (⟨#[63]⟩ : ByteArray) t255 _ A17.out).mono ?_);rintro e w' ⟨rfl,⟨nd,rfl⟩⟩;refine ⟨_,rfl,?_⟩))
           have n0_ : Aside0 ((((w25.setCell ⟨gb254,0,none⟩ (.string t250)).setCell ⟨gb254,1,none⟩ (.string t251)).setCell ⟨gb254,2,none⟩ (.int .i64 t252)).heap[gb246]? = some (.cells #[.string (⟨#[]⟩ : ByteArray),.string (⟨#[]⟩ : ByteArray),.int .i64 0,.string (⟨#[]⟩ : ByteArray),.string (⟨#[]⟩ : ByteArray)] 44 (0,0))):=⟨by (with_reducible repeat (first|refine blk_drewN ?_ _|refine blk_drew ?_|refine blk_alloc ?_ _));refine blk_far ?_ NB246_254.out _;(with_reducible repeat (first|refine blk_drewN ?_ _|refine blk_drew ?_|refine blk_alloc ?_ _));refine blk_far ?_ NB246_254.out _;(with_reducible repeat (first|refine blk_drewN ?_ _|refine blk_drew ?_|refine blk_alloc ?_ _));refine blk_far ?_ NB246_254.out _;(with_reducible repeat (first|refine blk_drewN ?_ _|refine blk_drew ?_|refine blk_alloc ?_ _));exact BK246.out⟩
           have n1_ : Aside0 ((((w25.setCell ⟨gb254,0,none⟩ (.string t250)).setCell ⟨gb254,1,none⟩ (.string t251)).setCell ⟨gb254,2,none⟩ (.int .i64 t252)).heap[gb254]? = some (.cells #[.string t250,.string t251,.int .i64 t252] 23 (0,0))):=⟨by (with_reducible repeat (first|refine blk_drewN ?_ _|refine blk_drew ?_|refine blk_alloc ?_ _));refine blk_put (cs:=#[.string t250,.string t251,.int .i64 0]) ?_ 2 _ rfl;(with_reducible repeat (first|refine blk_drewN ?_ _|refine blk_drew ?_|refine blk_alloc ?_ _));refine blk_put (cs:=#[.string t250,.string (⟨#[]⟩ : ByteArray),.int .i64 0]) ?_ 1 _ rfl;(with_reducible repeat (first|refine blk_drewN ?_ _|refine blk_drew ?_|refine blk_alloc ?_ _));refine blk_put (cs:=#[.string (⟨#[]⟩ : ByteArray),.string (⟨#[]⟩ : ByteArray),.int .i64 0]) ?_ 0 _ rfl;(with_reducible repeat (first|refine blk_drewN ?_ _|refine blk_drew ?_|refine blk_alloc ?_ _));exact BK254.out⟩
           have n2_ : Aside0 (Below w.heap.size w (((w25.setCell ⟨gb254,0,none⟩ (.string t250)).setCell ⟨gb254,1,none⟩ (.string t251)).setCell ⟨gb254,2,none⟩ (.int .i64 t252))):=⟨by repeat (first|(with_reducible first|exact HB.out|apply below_alloc|apply pw_below_drewN|apply below_drew1|refine below_set ?_ GE246.out|refine below_set ?_ GE254.out)|exact HB.out)⟩
           (try clear BK246)
           (try clear BK254)
           (try clear HB)
           generalize (((w25.setCell ⟨gb254,0,none⟩ (.string t250)).setCell ⟨gb254,1,none⟩ (.string t251)).setCell ⟨gb254,2,none⟩ (.int .i64 t252)) = w28 at n0_ n1_ n2_ ⊢
           have BK246:=n0_
           have BK254:=n1_
           have HB:=n2_
           clear n0_ n1_ n2_
           (try (rw [drewN_self w28];generalize hq_ : World.drewN w28 _ = w28;have n0_ : Aside0 (w28.heap[gb246]? = some (.cells #[.string (⟨#[]⟩ : ByteArray),.string (⟨#[]⟩ : ByteArray),.int .i64 0,.string (⟨#[]⟩ : ByteArray),.string (⟨#[]⟩ : ByteArray)] 44 (0,0))):=⟨by rw [← hq_];exact (by (with_reducible repeat (first|refine blk_drewN ?_ _|refine blk_drew ?_|refine blk_alloc ?_ _));exact BK246.out)⟩;have n1_ : Aside0 (w28.heap[gb254]? = some (.cells #[.string t250,.string t251,.int .i64 t252] 23 (0,0))):=⟨by rw [← hq_];exact (by (with_reducible repeat (first|refine blk_drewN ?_ _|refine blk_drew ?_|refine blk_alloc ?_ _));exact BK254.out)⟩;have n2_ : Aside0 (Below w.heap.size w w28):=⟨by rw [← hq_];exact (by repeat (first|(with_reducible first|exact HB.out|apply below_alloc|apply pw_below_drewN|apply below_drew1|refine below_set ?_ GE246.out|refine below_set ?_ GE254.out)|exact HB.out))⟩;clear BK246 BK254 HB hq_;have BK246:=n0_;have BK254:=n1_;have HB:=n2_;clear n0_ n1_ n2_))
           have n0_:=Aside0.mk (blk_drew BK246.out)
           have n1_:=Aside0.mk (blk_drew BK254.out)
           have n2_:=Aside0.mk (below_drew1 HB.out)
           clear BK246
           clear BK254
           clear HB
           have BK246:=n0_
           have BK254:=n1_
           have HB:=n2_
           clear n0_ n1_ n2_
           refine start_ (n:=11) (S:=fun w' => w'.cell? ⟨gb254,0,none⟩ = some (.string t250) ∧ w'.cell? ⟨gb254,1,none⟩ = some (.string t251) ∧ w'.cell? ⟨gb254,2,none⟩ = some (.int .i64 t252)) (ds:=[]) #[false,false,false,false,false,false,false,false,false,false,false] (by kernel_rfl) rfl rfl ⟨(blk_cell BK254.out 0).trans rfl,(blk_cell BK254.out 1).trans rfl,(blk_cell BK254.out 2).trans rfl⟩ (fun hHeld => ?_);refine with_tabW lockkeeperref4_Parse.tab12 lockkeeperref4_Parse.bits12 (fun HT_ HW_ => ?_)
           generalize w28.drew = w29 at BK246 BK254 HB hHeld ⊢
           refine pure_ (i:=1) (N:=some 44) (v:=?_) (a':=?_) #[false,true,false,false,false,false,false,false,false,false,false] rfl rfl (any_of HT_.out (by kernel_rfl)) (fun _ _ _ h => h) (Or.inl ⟨by rfl,?_⟩) ?_ ?_
           rotate_left
           ·intro w'
            go_simp
            with_reducible rfl
           rotate_left
           ·simp only [Act.put,List.setIfInBounds_toArray,List.set_cons_zero,List.set_cons_succ,i64_w,i32_w]
            rfl
           refine pure_ (i:=2) (N:=some 45) (v:=?_) (a':=?_) #[false,true,true,false,false,false,false,false,false,false,false] rfl rfl (any_of HT_.out (by kernel_rfl)) (fun _ _ _ h => h) (Or.inl ⟨by rfl,?_⟩) ?_ ?_
           rotate_left
           ·intro w'
            go_simp
            with_reducible rfl
           rotate_left
           ·simp only [Act.put,List.setIfInBounds_toArray,List.set_cons_zero,List.set_cons_succ,i64_w,i32_w]
            rfl
           refine pure_ (i:=3) (N:=some 46) (v:=?_) (a':=?_) #[false,true,true,true,false,false,false,false,false,false,false] rfl rfl (any_of HT_.out (by kernel_rfl)) (fun _ _ _ h => h) (Or.inl ⟨by rfl,?_⟩) ?_ ?_
           rotate_left
           ·intro w'
            go_simp
            with_reducible rfl
           rotate_left
           ·simp only [Act.put,List.setIfInBounds_toArray,List.set_cons_zero,List.set_cons_succ,i64_w,i32_w]
            rfl
           refine pure_ (i:=4) (N:=some 47) (v:=?_) (a':=?_) #[false,true,true,true,true,false,false,false,false,false,false] rfl rfl (any_of HT_.out (by kernel_rfl)) (fun _ _ _ h => h) (Or.inl ⟨by rfl,?_⟩) ?_ ?_
           rotate_left
           ·intro w'
            go_simp
            with_reducible rfl
           rotate_left
           ·simp only [Act.put,List.setIfInBounds_toArray,List.set_cons_zero,List.set_cons_succ,i64_w,i32_w]
            rfl
           refine pure_ (i:=5) (N:=some 48) (v:=?_) (a':=?_) #[false,true,true,true,true,true,false,false,false,false,false] rfl rfl (any_of HT_.out (by kernel_rfl)) (fun _ _ _ h => h) (Or.inl ⟨by rfl,?_⟩) ?_ ?_
           rotate_left
           ·intro w'
            go_simp
            with_reducible rfl
           rotate_left
           ·simp only [Act.put,List.setIfInBounds_toArray,List.set_cons_zero,List.set_cons_succ,i64_w,i32_w]
            rfl
           refine pure_ (i:=6) (N:=some 49) (v:=?_) (a':=?_) #[false,true,true,true,true,true,true,false,false,false,false] rfl rfl (any_of HT_.out (by kernel_rfl)) (fun _ _ _ h => h) (Or.inl ⟨by rfl,?_⟩) ?_ ?_
           rotate_left
           ·intro w'
            go_simp
            with_reducible rfl
           rotate_left
           ·simp only [Act.put,List.setIfInBounds_toArray,List.set_cons_zero,List.set_cons_succ,i64_w,i32_w]
            rfl
           refine pure_ (i:=7) (N:=some 50) (v:=?_) (a':=?_) #[false,true,true,true,true,true,true,true,false,false,false] rfl rfl (any_of HT_.out (by kernel_rfl)) (fun _ _ _ h => h) (Or.inl ⟨by rfl,?_⟩) ?_ ?_
           rotate_left
           ·intro w'
            go_simp
            with_reducible rfl
           rotate_left
           ·simp only [Act.put,List.setIfInBounds_toArray,List.set_cons_zero,List.set_cons_succ,i64_w,i32_w]
            rfl
           refine take_ (i:=0) (N:=some 43) (v:=?_) (a':=?_) #[true,true,true,true,true,true,true,true,false,false,false] rfl rfl (take_ofW HT_.out HW_.out (by kernel_rfl)) (fun _ _ _ h => h) (Or.inl ⟨by rfl,?_⟩) hHeld ?_ ?_
           rotate_left
           ·rintro w' ⟨s0,s1,s2⟩
            go_simp
            with_reducible rfl
           rotate_left
           ·simp only [Act.put,List.setIfInBounds_toArray,List.set_cons_zero,List.set_cons_succ,i64_w,i32_w]
            rfl
           refine pure_ (i:=8) (N:=some 51) (v:=?_) (a':=?_) #[true,true,true,true,true,true,true,true,true,false,false] rfl rfl (any_of HT_.out (by kernel_rfl)) (fun _ _ _ h => h) (Or.inl ⟨by rfl,?_⟩) ?_ ?_
           rotate_left
           ·intro w'
            go_simp
            with_reducible rfl
           rotate_left
           ·simp only [Act.put,List.setIfInBounds_toArray,List.set_cons_zero,List.set_cons_succ,i64_w,i32_w]
            rfl
           refine one_ (i:=9) (N:=some 9) #[true,true,true,true,true,true,true,true,true,true,false] rfl rfl (one_of HT_.out (by kernel_rfl)) (by decide) (fun K hK => ?_)
           refine box_step ?hg (N:=9) ?hd (cs:=#[.string (⟨#[]⟩ : ByteArray),.string (⟨#[]⟩ : ByteArray),.int .i64 0,.string (⟨#[]⟩ : ByteArray),.string (⟨#[]⟩ : ByteArray)]) (t:=44) ?hr ?_;(case hd => rfl);(case hg => rfl);(case hr => first|(go_simp;done)|(go_simp;rfl))
           intro gb256 hg w30 hbox hb
           have n0_:=Aside0.mk (blk_below (g:=gb246) (o:=.cells #[.string (⟨#[]⟩ : ByteArray),.string (⟨#[]⟩ : ByteArray),.int .i64 0,.string (⟨#[]⟩ : ByteArray),.string (⟨#[]⟩ : ByteArray)] 44 (0,0)) (by (with_reducible repeat (first|refine blk_drewN ?_ _|refine blk_drew ?_|refine blk_alloc ?_ _));exact BK246.out) hb)
           have n1_:=Aside0.mk (blk_below (g:=gb254) (o:=.cells #[.string t250,.string t251,.int .i64 t252] 23 (0,0)) (by (with_reducible repeat (first|refine blk_drewN ?_ _|refine blk_drew ?_|refine blk_alloc ?_ _));exact BK254.out) hb)
           have n2_:=Aside0.mk (below_step (by repeat (first|(with_reducible first|exact HB.out|apply below_alloc|apply pw_below_drewN|apply below_drew1|refine below_set ?_ GE246.out|refine below_set ?_ GE254.out)|exact HB.out)) hb)
           have n3_:=Aside0.mk (hbox)
           have n4_:=Aside0.mk ((by rw [hg];exact (below_size (by repeat (first|(with_reducible first|exact HB.out|apply below_alloc|apply pw_below_drewN|apply below_drew1|refine below_set ?_ GE246.out|refine below_set ?_ GE254.out)|exact HB.out))) : w.heap.size ≤ gb256))
           have n5_:=Aside0.mk ((by rw [hg];exact (below_size (by repeat (first|(with_reducible first|exact HB.out|apply below_alloc|apply pw_below_drewN|apply below_drew1|refine below_set ?_ GE246.out|refine below_set ?_ GE254.out)|exact HB.out))) : w.heap.size ≤ gb256))
           have n6_:=Aside0.mk ((by rw [hg];exact Nat.ne_of_lt (blk_lt (g:=gb246) (o:=.cells #[.string (⟨#[]⟩ : ByteArray),.string (⟨#[]⟩ : ByteArray),.int .i64 0,.string (⟨#[]⟩ : ByteArray),.string (⟨#[]⟩ : ByteArray)] 44 (0,0)) (by (with_reducible repeat (first|refine blk_drewN ?_ _|refine blk_drew ?_|refine blk_alloc ?_ _));exact BK246.out)) : gb246 ≠ gb256))
           have n7_:=Aside0.mk ((by rw [hg];exact Nat.ne_of_gt (blk_lt (g:=gb246) (o:=.cells #[.string (⟨#[]⟩ : ByteArray),.string (⟨#[]⟩ : ByteArray),.int .i64 0,.string (⟨#[]⟩ : ByteArray),.string (⟨#[]⟩ : ByteArray)] 44 (0,0)) (by (with_reducible repeat (first|refine blk_drewN ?_ _|refine blk_drew ?_|refine blk_alloc ?_ _));exact BK246.out)) : gb256 ≠ gb246))
           have n8_:=Aside0.mk ((by rw [hg];exact Nat.ne_of_lt (blk_lt (g:=gb254) (o:=.cells #[.string t250,.string t251,.int .i64 t252] 23 (0,0)) (by (with_reducible repeat (first|refine blk_drewN ?_ _|refine blk_drew ?_|refine blk_alloc ?_ _));exact BK254.out)) : gb254 ≠ gb256))
           have n9_:=Aside0.mk ((by rw [hg];exact Nat.ne_of_gt (blk_lt (g:=gb254) (o:=.cells #[.string t250,.string t251,.int .i64 t252] 23 (0,0)) (by (with_reducible repeat (first|refine blk_drewN ?_ _|refine blk_drew ?_|refine blk_alloc ?_ _));exact BK254.out)) : gb256 ≠ gb254))
           clear BK246
           clear BK254
           clear HB
           have BK246:=n0_
           have BK254:=n1_
           have HB:=n2_
           have BK256:=n3_
           have GW256:=n4_
           have GE256:=n5_
           have NB246_256:=n6_
           have NB256_246:=n7_
           have NB254_256:=n8_
           have NB256_254:=n9_
           clear n0_ n1_ n2_ n3_ n4_ n5_ n6_ n7_ n8_ n9_
           clear hb hbox hg
           refine hK.out _ _ ⟨(blk_cell BK254.out 0).trans rfl,(blk_cell BK254.out 1).trans rfl,(blk_cell BK254.out 2).trans rfl⟩ (fun hHeld => ?_)
           clear hK K
           refine norm_ (a':=?_) ?_ ?_
           rotate_left
           ·show Act.put _ (some 9) _ = _
            simp only [Act.put,List.setIfInBounds_toArray,List.set_cons_zero,List.set_cons_succ,i64_w,i32_w]
            rfl
           refine one_ (i:=10) (N:=none) #[true,true,true,true,true,true,true,true,true,true,true] rfl rfl (one_of HT_.out (by kernel_rfl)) (by decide) (fun K hK => ?_)
           have hs31 : w30.cell? ⟨gb256,0,none⟩ = some (.string (⟨#[]⟩ : ByteArray)):=(blk_cell BK256.out 0).trans rfl
           have hfs31:=blk_frozen BK256.out 0
           have hns31_0:=NB246_256.out
           have hns31_1:=NB254_256.out
           have hms31_0:=NB256_246.out
           have hms31_1:=NB256_254.out
           have hs32 : w30.cell? ⟨gb256,1,none⟩ = some (.string (⟨#[]⟩ : ByteArray)):=(blk_cell BK256.out 1).trans rfl
           have hfs32:=blk_frozen BK256.out 1
           have hns32_0:=NB246_256.out
           have hns32_1:=NB254_256.out
           have hms32_0:=NB256_246.out
           have hms32_1:=NB256_254.out
           have hs33 : w30.cell? ⟨gb256,2,none⟩ = some (.int .i64 0):=(blk_cell BK256.out 2).trans rfl
           have hfs33:=blk_frozen BK256.out 2
           have hns33_0:=NB246_256.out
           have hns33_1:=NB254_256.out
           have hms33_0:=NB256_246.out
           have hms33_1:=NB256_254.out
           have hs34 : w30.cell? ⟨gb256,3,none⟩ = some (.string (⟨#[]⟩ : ByteArray)):=(blk_cell BK256.out 3).trans rfl
           have hfs34:=blk_frozen BK256.out 3
           have hns34_0:=NB246_256.out
           have hns34_1:=NB254_256.out
           have hms34_0:=NB256_246.out
           have hms34_1:=NB256_254.out
           have hs35 : w30.cell? ⟨gb256,4,none⟩ = some (.string (⟨#[]⟩ : ByteArray)):=(blk_cell BK256.out 4).trans rfl
           have hfs35:=blk_frozen BK256.out 4
           have hns35_0:=NB246_256.out
           have hns35_1:=NB254_256.out
           have hms35_0:=NB256_246.out
           have hms35_1:=NB256_254.out
           refine skip_ (w1:=?_) (by rfl) rfl ?_ ?_
           rotate_left
           ·go_simp
            rfl
           refine hK.out _ _ ⟨((cell_far (p:=⟨gb256,_,none⟩) NB254_256.out _).trans (((cell_far (p:=⟨gb256,_,none⟩) NB254_256.out _).trans (((cell_far (p:=⟨gb256,_,none⟩) NB254_256.out _).trans (((cell_far (p:=⟨gb256,_,none⟩) NB254_256.out _).trans (((cell_far (p:=⟨gb256,_,none⟩) NB254_256.out _).trans (hHeld.1)))))))))),((cell_far (p:=⟨gb256,_,none⟩) NB254_256.out _).trans (((cell_far (p:=⟨gb256,_,none⟩) NB254_256.out _).trans (((cell_far (p:=⟨gb256,_,none⟩) NB254_256.out _).trans (((cell_far (p:=⟨gb256,_,none⟩) NB254_256.out _).trans (((cell_far (p:=⟨gb256,_,none⟩) NB254_256.out _).trans (hHeld.2.1)))))))))),((cell_far (p:=⟨gb256,_,none⟩) NB254_256.out _).trans (((cell_far (p:=⟨gb256,_,none⟩) NB254_256.out _).trans (((cell_far (p:=⟨gb256,_,none⟩) NB254_256.out _).trans (((cell_far (p:=⟨gb256,_,none⟩) NB254_256.out _).trans (((cell_far (p:=⟨gb256,_,none⟩) NB254_256.out _).trans (hHeld.2.2))))))))))⟩ (fun hHeld => ?_)
           clear hK K
           refine done_ (done_of HT_.out (by kernel_rfl)) ?_
           try go_wp2
           go_loopg [10] k (fun kq v10 w' => ∃ (x10_1 : Int) (x247000_1 : ByteArray) (x247001_1 : ByteArray) (x247002_1 : Int) (x247003_1 : ByteArray) (x247004_1 : ByteArray),v10 = .int .i64 x10_1 ∧ Aside0 (lockkeeperref4_Parse.l0 kq x10_1 t250 t251 t252 t250 t251 t252 x2_ x3_ = some (r1,r2,r3,r4,r5,r6)) ∧ Aside0 (kq ≤ k) ∧ Aside0 (w'.heap[gb246]? = some (.cells #[.string x247000_1,.string x247001_1,.int .i64 x247002_1,.string x247003_1,.string x247004_1] 44 (0,0))) ∧ Aside0 (w'.heap[gb254]? = some (.cells #[.string t250,.string t251,.int .i64 t252] 23 (0,0))) ∧ Aside0 (w'.heap[gb256]? = some (.cells #[.string t250,.string t251,.int .i64 t252,.string x2_,.string x3_] 44 (0,0))) ∧ Aside0 (Below w.heap.size w w'))
           case atStart => exact ⟨(0),((⟨#[]⟩ : ByteArray)),((⟨#[]⟩ : ByteArray)),(0),((⟨#[]⟩ : ByteArray)),((⟨#[]⟩ : ByteArray)),(by first|rfl|(simp;done)|(simp [*];done)),H',⟨Nat.le_refl _⟩,⟨by (with_reducible repeat (first|refine blk_drewN ?_ _|refine blk_drew ?_|refine blk_alloc ?_ _));refine blk_far ?_ NB246_256.out _;(with_reducible repeat (first|refine blk_drewN ?_ _|refine blk_drew ?_|refine blk_alloc ?_ _));refine blk_far ?_ NB246_256.out _;(with_reducible repeat (first|refine blk_drewN ?_ _|refine blk_drew ?_|refine blk_alloc ?_ _));refine blk_far ?_ NB246_256.out _;(with_reducible repeat (first|refine blk_drewN ?_ _|refine blk_drew ?_|refine blk_alloc ?_ _));refine blk_far ?_ NB246_256.out _;(with_reducible repeat (first|refine blk_drewN ?_ _|refine blk_drew ?_|refine blk_alloc ?_ _));refine blk_far ?_ NB246_256.out _;(with_reducible repeat (first|refine blk_drewN ?_ _|refine blk_drew ?_|refine blk_alloc ?_ _));exact BK246.out⟩,⟨by (with_reducible repeat (first|refine blk_drewN ?_ _|refine blk_drew ?_|refine blk_alloc ?_ _));refine blk_far ?_ NB254_256.out _;(with_reducible repeat (first|refine blk_drewN ?_ _|refine blk_drew ?_|refine blk_alloc ?_ _));refine blk_far ?_ NB254_256.out _;(with_reducible repeat (first|refine blk_drewN ?_ _|refine blk_drew ?_|refine blk_alloc ?_ _));refine blk_far ?_ NB254_256.out _;(with_reducible repeat (first|refine blk_drewN ?_ _|refine blk_drew ?_|refine blk_alloc ?_ _));refine blk_far ?_ NB254_256.out _;(with_reducible repeat (first|refine blk_drewN ?_ _|refine blk_drew ?_|refine blk_alloc ?_ _));refine blk_far ?_ NB254_256.out _;(with_reducible repeat (first|refine blk_drewN ?_ _|refine blk_drew ?_|refine blk_alloc ?_ _));exact BK254.out⟩,⟨by (with_reducible repeat (first|refine blk_drewN ?_ _|refine blk_drew ?_|refine blk_alloc ?_ _));refine blk_put (cs:=#[.string t250,.string t251,.int .i64 t252,.string x2_,.string (⟨#[]⟩ : ByteArray)]) ?_ 4 _ rfl;(with_reducible repeat (first|refine blk_drewN ?_ _|refine blk_drew ?_|refine blk_alloc ?_ _));refine blk_put (cs:=#[.string t250,.string t251,.int .i64 t252,.string (⟨#[]⟩ : ByteArray),.string (⟨#[]⟩ : ByteArray)]) ?_ 3 _ rfl;(with_reducible repeat (first|refine blk_drewN ?_ _|refine blk_drew ?_|refine blk_alloc ?_ _));refine blk_put (cs:=#[.string t250,.string t251,.int .i64 0,.string (⟨#[]⟩ : ByteArray),.string (⟨#[]⟩ : ByteArray)]) ?_ 2 _ rfl;(with_reducible repeat (first|refine blk_drewN ?_ _|refine blk_drew ?_|refine blk_alloc ?_ _));refine blk_put (cs:=#[.string t250,.string (⟨#[]⟩ : ByteArray),.int .i64 0,.string (⟨#[]⟩ : ByteArray),.string (⟨#[]⟩ : ByteArray)]) ?_ 1 _ rfl;(with_reducible repeat (first|refine blk_drewN ?_ _|refine blk_drew ?_|refine blk_alloc ?_ _));refine blk_put (cs:=#[.string (⟨#[]⟩ : ByteArray),.string (⟨#[]⟩ : ByteArray),.int .i64 0,.string (⟨#[]⟩ : ByteArray),.string (⟨#[]⟩ : ByteArray)]) ?_ 0 _ rfl;(with_reducible repeat (first|refine blk_drewN ?_ _|refine blk_drew ?_|refine blk_alloc ?_ _));exact BK256.out⟩,⟨by repeat (first|(with_reducible first|exact HB.out|apply below_alloc|apply pw_below_drewN|apply below_drew1|refine below_set ?_ GE246.out|refine below_set ?_ GE254.out|refine below_set ?_ GE256.out)|exact HB.out)⟩⟩
           case round =>
            clear H'
            try clear c1
            try clear c2
            try clear c2b0
            try clear c2b1
            try clear p2
            try clear c3
            try clear c4
            try clear c5
            try clear c6
            try clear c6b0
            try clear c6b1
            try clear p6
            try clear c7
            try clear c7b0
            try clear c7b1
            try clear c9
            try clear c9b0
            try clear c13
            try clear c13b0
            try clear c13b1
            try clear c14
            try clear c14b0
            try clear c14b1
            try clear c16
            try clear c16b0
            try clear c16b1
            try clear c18
            try clear c18b0
            try clear c19
            try clear c19b0
            try clear c19b1
            try clear c20
            try clear c20b0
            try clear c20b1
            try clear c21
            try clear c21b0
            try clear c21b1
            try clear c22
            try clear c22b0
            try clear c26
            try clear c35
            try clear hcz11_0
            try clear hcz11_1
            try clear hcz11_2
            try clear hcz11_3
            try clear hcz11_4
            try clear hcz27_0
            try clear hcz27_1
            try clear hcz27_2
            try clear hcz4_0
            try clear hcz4_1
            try clear hcz4_2
            try clear hcz4_3
            try clear hcz4_4
            try clear hfz11_0
            try clear hfz11_1
            try clear hfz11_2
            try clear hfz11_3
            try clear hfz11_4
            try clear hfz27_0
            try clear hfz27_1
            try clear hfz27_2
            try clear hfz4_0
            try clear hfz4_1
            try clear hfz4_2
            try clear hfz4_3
            try clear hfz4_4
            obtain ⟨x10_1,x247000_1,x247001_1,x247002_1,x247003_1,x247004_1,rfl,HA,HK1,BK246,BK254,BK256,HB⟩:=hrel
            cases gk with
            | zero => exact absurd HA.out (by simp [lockkeeperref4_Parse.l0])
            | succ k1 =>
             have H:=HA.out
             clear HA
             simp only [lockkeeperref4_Parse.l0] at H
             by_cases c36 : x10_1 < (x2_.size : Int)
             ·rw [if_pos c36] at H
              have c36b0 : decide (x10_1 < (x2_.size : Int)) = true:=decide_eq_true c36
              clear c36
              by_cases c37 : 0 ≤ x10_1
              ·rw [if_pos c37] at H
               have c37b0 : decide (0 ≤ x10_1) = true:=decide_eq_true c37
               clear c37
               replace H:=Option.bind_eq_some_iff.mp H
               obtain ⟨t257,A390,H⟩:=H
               replace H : (if t257 = true then (lockkeeperref4_Parse.l0 k1 (wrap64 (x10_1 + 1)) t250 t251 t252 t250 t251 t252 x2_ x3_) else (some ((⟨#[]⟩ : ByteArray),(⟨#[]⟩ : ByteArray),0,(⟨#[]⟩ : ByteArray),(⟨#[]⟩ : ByteArray),3))) = some (r1,r2,r3,r4,r5,r6):=H
               have A39:=Aside0.mk A390
               clear A390
               by_cases c40 : t257 = true
               ·subst c40
                have H1 : (lockkeeperref4_Parse.l0 k1 (wrap64 (x10_1 + 1)) t250 t251 t252 t250 t251 t252 x2_ x3_) = some (r1,r2,r3,r4,r5,r6):=by rw [if_pos rfl] at H;exact H
                clear H
                have H:=H1
                clear H1
                have H':=Aside0.mk H
                clear H
                have hnb41:=NB256_246.out
                have hnc41:=NB246_256.out
                have hnb42:=NB256_254.out
                have hnc42:=NB254_256.out
                have hcz43_0 : wr.cell? ⟨gb256,0,none⟩ = some (.string t250):=(blk_cell BK256.out 0).trans rfl
                have hcz43_1 : wr.cell? ⟨gb256,1,none⟩ = some (.string t251):=(blk_cell BK256.out 1).trans rfl
                have hcz43_2 : wr.cell? ⟨gb256,2,none⟩ = some (.int .i64 t252):=(blk_cell BK256.out 2).trans rfl
                have hcz43_3 : wr.cell? ⟨gb256,3,none⟩ = some (.string x2_):=(blk_cell BK256.out 3).trans rfl
                have hcz43_4 : wr.cell? ⟨gb256,4,none⟩ = some (.string x3_):=(blk_cell BK256.out 4).trans rfl
                have hfz43_0:=blk_frozen BK256.out 0
                have hfz43_1:=blk_frozen BK256.out 1
                have hfz43_2:=blk_frozen BK256.out 2
                have hfz43_3:=blk_frozen BK256.out 3
                have hfz43_4:=blk_frozen BK256.out 4
                have p38 : 0 ≤ (x10_1 : Int):=of_decide_eq_true (by first|(with_reducible assumption)|assumption)
                have q38 : x10_1 < (x2_.size : Int):=of_decide_eq_true (by first|(with_reducible assumption)|assumption)
                have hx38:=bt_at x2_ x10_1
                replace p38:=eq_true p38
                replace q38:=eq_true q38
                go_wp2_with (first|((with_reducible refine gate_callee (f:=56) rfl ?_);refine goesL_ (some 63) rfl rfl Tryd.func56 (by kernel_rfl) rfl #[.int .u8 (bt x2_ x10_1)] rfl (by (try simp only [List.map_toArray,List.map_cons,List.map_nil]);first|done|rfl|(simp only [List.length_drop,List.length_take];rfl)) ?_;(with_reducible refine (lockkeeperref4_pathByte.calls k1 (bt x2_ x10_1) true _ A39.out).mono ?_);rintro e w' ⟨rfl,⟨nd,rfl⟩⟩;refine ⟨_,rfl,?_⟩))
                go_roundg k1
                case measure => have:=HK1.out;omega
                case rel => exact ⟨(wrap64 (x10_1 + 1)),(x247000_1),(x247001_1),(x247002_1),(x247003_1),(x247004_1),(by first|rfl|(simp;done)|(simp [*];done)),H',⟨by have:=HK1.out;omega⟩,⟨by (with_reducible repeat (first|refine blk_drewN ?_ _|refine blk_drew ?_|refine blk_alloc ?_ _));exact BK246.out⟩,⟨by (with_reducible repeat (first|refine blk_drewN ?_ _|refine blk_drew ?_|refine blk_alloc ?_ _));exact BK254.out⟩,⟨by (with_reducible repeat (first|refine blk_drewN ?_ _|refine blk_drew ?_|refine blk_alloc ?_ _));exact BK256.out⟩,⟨by repeat (first|(with_reducible first|exact HB.out|apply below_alloc|apply pw_below_drewN|apply below_drew1|refine below_set ?_ GE246.out|refine below_set ?_ GE254.out|refine below_set ?_ GE256.out)|exact HB.out)⟩⟩
               ·replace c40:=Bool.eq_false_iff.mpr c40
                subst c40
                have H1 : (some ((⟨#[]⟩ : ByteArray),(⟨#[]⟩ : ByteArray),0,(⟨#[]⟩ : ByteArray),(⟨#[]⟩ : ByteArray),3)) = some (r1,r2,r3,r4,r5,r6):=by rw [if_neg (show ¬ (false = true) by decide)] at H;exact H
                clear H
                have H:=H1
                clear H1
                simp only [Option.some.injEq,Prod.mk.injEq] at H
                obtain ⟨rfl,rfl,rfl,rfl,rfl,rfl⟩:=H
                have hnb44:=NB256_246.out
                have hnc44:=NB246_256.out
                have hnb45:=NB256_254.out
                have hnc45:=NB254_256.out
                have hcz46_0 : wr.cell? ⟨gb256,0,none⟩ = some (.string t250):=(blk_cell BK256.out 0).trans rfl
                have hcz46_1 : wr.cell? ⟨gb256,1,none⟩ = some (.string t251):=(blk_cell BK256.out 1).trans rfl
                have hcz46_2 : wr.cell? ⟨gb256,2,none⟩ = some (.int .i64 t252):=(blk_cell BK256.out 2).trans rfl
                have hcz46_3 : wr.cell? ⟨gb256,3,none⟩ = some (.string x2_):=(blk_cell BK256.out 3).trans rfl
                have hcz46_4 : wr.cell? ⟨gb256,4,none⟩ = some (.string x3_):=(blk_cell BK256.out 4).trans rfl
                have hfz46_0:=blk_frozen BK256.out 0
                have hfz46_1:=blk_frozen BK256.out 1
                have hfz46_2:=blk_frozen BK256.out 2
                have hfz46_3:=blk_frozen BK256.out 3
                have hfz46_4:=blk_frozen BK256.out 4
                have p38 : 0 ≤ (x10_1 : Int):=of_decide_eq_true (by first|(with_reducible assumption)|assumption)
                have q38 : x10_1 < (x2_.size : Int):=of_decide_eq_true (by first|(with_reducible assumption)|assumption)
                have hx38:=bt_at x2_ x10_1
                replace p38:=eq_true p38
                replace q38:=eq_true q38
                go_wp2_with (first|((with_reducible refine gate_callee (f:=56) rfl ?_);refine goesL_ (some 63) rfl rfl Tryd.func56 (by kernel_rfl) rfl #[.int .u8 (bt x2_ x10_1)] rfl (by (try simp only [List.map_toArray,List.map_cons,List.map_nil]);first|done|rfl|(simp only [List.length_drop,List.length_take];rfl)) ?_;(with_reducible refine (lockkeeperref4_pathByte.calls k1 (bt x2_ x10_1) false _ A39.out).mono ?_);rintro e w' ⟨rfl,⟨nd,rfl⟩⟩;refine ⟨_,rfl,?_⟩;(try (rw [drewN_self wr];generalize hq_ : World.drewN wr _ = wr;have n0_ : Aside0 (wr.heap[gb246]? = some (.cells #[.string x247000_1,.string x247001_1,.int .i64 x247002_1,.string x247003_1,.string x247004_1] 44 (0,0))):=⟨by rw [← hq_];exact (by (with_reducible repeat (first|refine blk_drewN ?_ _|refine blk_drew ?_|refine blk_alloc ?_ _));exact BK246.out)⟩;have n1_ : Aside0 (wr.heap[gb254]? = some (.cells #[.string t250,.string t251,.int .i64 t252] 23 (0,0))):=⟨by rw [← hq_];exact (by (with_reducible repeat (first|refine blk_drewN ?_ _|refine blk_drew ?_|refine blk_alloc ?_ _));exact BK254.out)⟩;have n2_ : Aside0 (wr.heap[gb256]? = some (.cells #[.string t250,.string t251,.int .i64 t252,.string x2_,.string x3_] 44 (0,0))):=⟨by rw [← hq_];exact (by (with_reducible repeat (first|refine blk_drewN ?_ _|refine blk_drew ?_|refine blk_alloc ?_ _));exact BK256.out)⟩;have n3_ : Aside0 (Below w.heap.size w wr):=⟨by rw [← hq_];exact (by repeat (first|(with_reducible first|exact HB.out|apply below_alloc|apply pw_below_drewN|apply below_drew1|refine below_set ?_ GE246.out|refine below_set ?_ GE254.out|refine below_set ?_ GE256.out)|exact HB.out))⟩;clear BK246 BK254 BK256 HB hq_;have BK246:=n0_;have BK254:=n1_;have BK256:=n2_;have HB:=n3_;clear n0_ n1_ n2_ n3_));have hnb47:=NB246_254.out;have hnc47:=NB254_246.out;have hcz48_0 : wr.cell? ⟨gb246,0,none⟩ = some (.string x247000_1):=(blk_cell BK246.out 0).trans rfl;have hcz48_1 : wr.cell? ⟨gb246,1,none⟩ = some (.string x247001_1):=(blk_cell BK246.out 1).trans rfl;have hcz48_2 : wr.cell? ⟨gb246,2,none⟩ = some (.int .i64 x247002_1):=(blk_cell BK246.out 2).trans rfl;have hcz48_3 : wr.cell? ⟨gb246,3,none⟩ = some (.string x247003_1):=(blk_cell BK246.out 3).trans rfl;have hcz48_4 : wr.cell? ⟨gb246,4,none⟩ = some (.string x247004_1):=(blk_cell BK246.out 4).trans rfl;have hfz48_0:=blk_frozen BK246.out 0;have hfz48_1:=blk_frozen BK246.out 1;have hfz48_2:=blk_frozen BK246.out 2;have hfz48_3:=blk_frozen BK246.out 3;have hfz48_4:=blk_frozen BK246.out 4))
                refine bodyPost_ret (results_ct rfl _ _ gb246 44 #[.string (⟨#[]⟩ : ByteArray),.string (⟨#[]⟩ : ByteArray),.int .i64 0,.string (⟨#[]⟩ : ByteArray),.string (⟨#[]⟩ : ByteArray)] (0,0) _ rfl (by (with_reducible repeat (first|refine blk_drewN ?_ _|refine blk_drew ?_|refine blk_alloc ?_ _));refine blk_put (cs:=#[.string (⟨#[]⟩ : ByteArray),.string (⟨#[]⟩ : ByteArray),.int .i64 0,.string (⟨#[]⟩ : ByteArray),.string x247004_1]) ?_ 4 _ rfl;(with_reducible repeat (first|refine blk_drewN ?_ _|refine blk_drew ?_|refine blk_alloc ?_ _));refine blk_put (cs:=#[.string (⟨#[]⟩ : ByteArray),.string (⟨#[]⟩ : ByteArray),.int .i64 0,.string x247003_1,.string x247004_1]) ?_ 3 _ rfl;(with_reducible repeat (first|refine blk_drewN ?_ _|refine blk_drew ?_|refine blk_alloc ?_ _));refine blk_put (cs:=#[.string (⟨#[]⟩ : ByteArray),.string (⟨#[]⟩ : ByteArray),.int .i64 x247002_1,.string x247003_1,.string x247004_1]) ?_ 2 _ rfl;(with_reducible repeat (first|refine blk_drewN ?_ _|refine blk_drew ?_|refine blk_alloc ?_ _));refine blk_put (cs:=#[.string (⟨#[]⟩ : ByteArray),.string x247001_1,.int .i64 x247002_1,.string x247003_1,.string x247004_1]) ?_ 1 _ rfl;(with_reducible repeat (first|refine blk_drewN ?_ _|refine blk_drew ?_|refine blk_alloc ?_ _));refine blk_put (cs:=#[.string x247000_1,.string x247001_1,.int .i64 x247002_1,.string x247003_1,.string x247004_1]) ?_ 0 _ rfl;(with_reducible repeat (first|refine blk_drewN ?_ _|refine blk_drew ?_|refine blk_alloc ?_ _));exact BK246.out) Tryd.underlying44 rfl (by kernel_rfl)) rfl ?_
                exact ⟨by first|rfl|(simp [errW_none,errW_some] <;> rfl)|(simp [*,errW_none,errW_some] <;> rfl),by repeat (first|(with_reducible first|exact HB.out|apply below_alloc|apply pw_below_drewN|apply below_drew1|refine below_set ?_ GE246.out|refine below_set ?_ GE254.out|refine below_set ?_ GE256.out)|exact HB.out)⟩
              ·rw [if_neg c37] at H
               exact absurd H (by simp)
             ·rw [if_neg c36] at H
              have c36b0 : decide (x10_1 < (x2_.size : Int)) = false:=decide_eq_false c36
              clear c36
              have H':=Aside0.mk H
              clear H
              have hnb49:=NB256_246.out
              have hnc49:=NB246_256.out
              have hnb50:=NB256_254.out
              have hnc50:=NB254_256.out
              have hcz51_0 : wr.cell? ⟨gb256,0,none⟩ = some (.string t250):=(blk_cell BK256.out 0).trans rfl
              have hcz51_1 : wr.cell? ⟨gb256,1,none⟩ = some (.string t251):=(blk_cell BK256.out 1).trans rfl
              have hcz51_2 : wr.cell? ⟨gb256,2,none⟩ = some (.int .i64 t252):=(blk_cell BK256.out 2).trans rfl
              have hcz51_3 : wr.cell? ⟨gb256,3,none⟩ = some (.string x2_):=(blk_cell BK256.out 3).trans rfl
              have hcz51_4 : wr.cell? ⟨gb256,4,none⟩ = some (.string x3_):=(blk_cell BK256.out 4).trans rfl
              have hfz51_0:=blk_frozen BK256.out 0
              have hfz51_1:=blk_frozen BK256.out 1
              have hfz51_2:=blk_frozen BK256.out 2
              have hfz51_3:=blk_frozen BK256.out 3
              have hfz51_4:=blk_frozen BK256.out 4
              go_wp2
              go_loopg [11] k1 (fun kq v11 w' => ∃ (x11_2 : Int) (x247000_2 : ByteArray) (x247001_2 : ByteArray) (x247002_2 : Int) (x247003_2 : ByteArray) (x247004_2 : ByteArray),v11 = .int .i64 x11_2 ∧ Aside0 (lockkeeperref4_Parse.l1 kq x11_2 t250 t251 t252 t250 t251 t252 x2_ x3_ = some (r1,r2,r3,r4,r5,r6)) ∧ Aside0 (kq ≤ k1) ∧ Aside0 (w'.heap[gb246]? = some (.cells #[.string x247000_2,.string x247001_2,.int .i64 x247002_2,.string x247003_2,.string x247004_2] 44 (0,0))) ∧ Aside0 (w'.heap[gb254]? = some (.cells #[.string t250,.string t251,.int .i64 t252] 23 (0,0))) ∧ Aside0 (w'.heap[gb256]? = some (.cells #[.string t250,.string t251,.int .i64 t252,.string x2_,.string x3_] 44 (0,0))) ∧ Aside0 (Below w.heap.size w w'))
              case atStart => exact ⟨(1),(x247000_1),(x247001_1),(x247002_1),(x247003_1),(x247004_1),(by first|rfl|(simp;done)|(simp [*];done)),H',⟨Nat.le_refl _⟩,⟨by (with_reducible repeat (first|refine blk_drewN ?_ _|refine blk_drew ?_|refine blk_alloc ?_ _));exact BK246.out⟩,⟨by (with_reducible repeat (first|refine blk_drewN ?_ _|refine blk_drew ?_|refine blk_alloc ?_ _));exact BK254.out⟩,⟨by (with_reducible repeat (first|refine blk_drewN ?_ _|refine blk_drew ?_|refine blk_alloc ?_ _));exact BK256.out⟩,⟨by repeat (first|(with_reducible first|exact HB.out|apply below_alloc|apply pw_below_drewN|apply below_drew1|refine below_set ?_ GE246.out|refine below_set ?_ GE254.out|refine below_set ?_ GE256.out)|exact HB.out)⟩⟩
              case round =>
               clear H'
               try clear c1
               try clear c2
               try clear c2b0
               try clear c2b1
               try clear p2
               try clear c3
               try clear p3
               try clear q3
               try clear hx3
               try clear c4
               try clear c5
               try clear c6
               try clear c6b0
               try clear c6b1
               try clear p6
               try clear c7
               try clear c7b0
               try clear c7b1
               try clear c9
               try clear c9b0
               try clear c13
               try clear c13b0
               try clear c13b1
               try clear c14
               try clear c14b0
               try clear c14b1
               try clear c16
               try clear c16b0
               try clear c16b1
               try clear c18
               try clear c18b0
               try clear c19
               try clear c19b0
               try clear c19b1
               try clear c20
               try clear c20b0
               try clear c20b1
               try clear c21
               try clear c21b0
               try clear c21b1
               try clear c22
               try clear c22b0
               try clear c26
               try clear c35
               try clear c36
               try clear c36b0
               try clear c37
               try clear c37b0
               try clear p38
               try clear q38
               try clear hx38
               try clear c40
               try clear c41
               try clear c42
               try clear c44
               try clear c45
               try clear c47
               try clear c49
               try clear c50
               try clear hcz11_0
               try clear hcz11_1
               try clear hcz11_2
               try clear hcz11_3
               try clear hcz11_4
               try clear hcz27_0
               try clear hcz27_1
               try clear hcz27_2
               try clear hcz43_0
               try clear hcz43_1
               try clear hcz43_2
               try clear hcz43_3
               try clear hcz43_4
               try clear hcz46_0
               try clear hcz46_1
               try clear hcz46_2
               try clear hcz46_3
               try clear hcz46_4
               try clear hcz48_0
               try clear hcz48_1
               try clear hcz48_2
               try clear hcz48_3
               try clear hcz48_4
               try clear hcz4_0
               try clear hcz4_1
               try clear hcz4_2
               try clear hcz4_3
               try clear hcz4_4
               try clear hcz51_0
               try clear hcz51_1
               try clear hcz51_2
               try clear hcz51_3
               try clear hcz51_4
               try clear hfz11_0
               try clear hfz11_1
               try clear hfz11_2
               try clear hfz11_3
               try clear hfz11_4
               try clear hfz27_0
               try clear hfz27_1
               try clear hfz27_2
               try clear hfz43_0
               try clear hfz43_1
               try clear hfz43_2
               try clear hfz43_3
               try clear hfz43_4
               try clear hfz46_0
               try clear hfz46_1
               try clear hfz46_2
               try clear hfz46_3
               try clear hfz46_4
               try clear hfz48_0
               try clear hfz48_1
               try clear hfz48_2
               try clear hfz48_3
               try clear hfz48_4
               try clear hfz4_0
               try clear hfz4_1
               try clear hfz4_2
               try clear hfz4_3
               try clear hfz4_4
               try clear hfz51_0
               try clear hfz51_1
               try clear hfz51_2
               try clear hfz51_3
               try clear hfz51_4
               try clear p2
               try clear p38
               try clear p6
               try clear q38
               obtain ⟨x11_2,x247000_2,x247001_2,x247002_2,x247003_2,x247004_2,rfl,HA,HK2,BK246,BK254,BK256,HB⟩:=hrel
               cases gk with
               | zero => exact absurd HA.out (by simp [lockkeeperref4_Parse.l1])
               | succ k2 =>
                have H:=HA.out
                clear HA
                simp only [lockkeeperref4_Parse.l1] at H
                by_cases c52 : x11_2 < (x3_.size : Int)
                ·rw [if_pos c52] at H
                 have c52b0 : decide (x11_2 < (x3_.size : Int)) = true:=decide_eq_true c52
                 clear c52
                 by_cases c53 : 0 ≤ x11_2
                 ·rw [if_pos c53] at H
                  have c53b0 : decide (0 ≤ x11_2) = true:=decide_eq_true c53
                  clear c53
                  replace H:=Option.bind_eq_some_iff.mp H
                  obtain ⟨t258,A550,H⟩:=H
                  replace H : (if t258 = true then (lockkeeperref4_Parse.l1 k2 (wrap64 (x11_2 + 1)) t250 t251 t252 t250 t251 t252 x2_ x3_) else (some ((⟨#[]⟩ : ByteArray),(⟨#[]⟩ : ByteArray),0,(⟨#[]⟩ : ByteArray),(⟨#[]⟩ : ByteArray),3))) = some (r1,r2,r3,r4,r5,r6):=H
                  have A55:=Aside0.mk A550
                  clear A550
                  by_cases c56 : t258 = true
                  ·subst c56
                   have H1 : (lockkeeperref4_Parse.l1 k2 (wrap64 (x11_2 + 1)) t250 t251 t252 t250 t251 t252 x2_ x3_) = some (r1,r2,r3,r4,r5,r6):=by rw [if_pos rfl] at H;exact H
                   clear H
                   have H:=H1
                   clear H1
                   have H':=Aside0.mk H
                   clear H
                   have hnb57:=NB256_246.out
                   have hnc57:=NB246_256.out
                   have hnb58:=NB256_254.out
                   have hnc58:=NB254_256.out
                   have hcz59_0 : wr.cell? ⟨gb256,0,none⟩ = some (.string t250):=(blk_cell BK256.out 0).trans rfl
                   have hcz59_1 : wr.cell? ⟨gb256,1,none⟩ = some (.string t251):=(blk_cell BK256.out 1).trans rfl
                   have hcz59_2 : wr.cell? ⟨gb256,2,none⟩ = some (.int .i64 t252):=(blk_cell BK256.out 2).trans rfl
                   have hcz59_3 : wr.cell? ⟨gb256,3,none⟩ = some (.string x2_):=(blk_cell BK256.out 3).trans rfl
                   have hcz59_4 : wr.cell? ⟨gb256,4,none⟩ = some (.string x3_):=(blk_cell BK256.out 4).trans rfl
                   have hfz59_0:=blk_frozen BK256.out 0
                   have hfz59_1:=blk_frozen BK256.out 1
                   have hfz59_2:=blk_frozen BK256.out 2
                   have hfz59_3:=blk_frozen BK256.out 3
                   have hfz59_4:=blk_frozen BK256.out 4
                   have p54 : 0 ≤ (x11_2 : Int):=of_decide_eq_true (by first|(with_reducible assumption)|assumption)
                   have q54 : x11_2 < (x3_.size : Int):=of_decide_eq_true (by first|(with_reducible assumption)|assumption)
                   have hx54:=bt_at x3_ x11_2
                   replace p54:=eq_true p54
                   replace q54:=eq_true q54
                   go_wp2_with (first|((with_reducible refine gate_callee (f:=57) rfl ?_);refine goesL_ (some 77) rfl rfl Tryd.func57 (by kernel_rfl) rfl #[.int .u8 (bt x3_ x11_2)] rfl (by (try simp only [List.map_toArray,List.map_cons,List.map_nil]);first|done|rfl|(simp only [List.length_drop,List.length_take];rfl)) ?_;(with_reducible refine (lockkeeperref4_queryByte.calls k2 (bt x3_ x11_2) true _ A55.out).mono ?_);rintro e w' ⟨rfl,⟨nd,rfl⟩⟩;refine ⟨_,rfl,?_⟩))
                   go_roundg k2
                   case measure => have:=HK1.out;have:=HK2.out;omega
                   case rel => exact ⟨(wrap64 (x11_2 + 1)),(x247000_2),(x247001_2),(x247002_2),(x247003_2),(x247004_2),(by first|rfl|(simp;done)|(simp [*];done)),H',⟨by have:=HK1.out;have:=HK2.out;omega⟩,⟨by (with_reducible repeat (first|refine blk_drewN ?_ _|refine blk_drew ?_|refine blk_alloc ?_ _));exact BK246.out⟩,⟨by (with_reducible repeat (first|refine blk_drewN ?_ _|refine blk_drew ?_|refine blk_alloc ?_ _));exact BK254.out⟩,⟨by (with_reducible repeat (first|refine blk_drewN ?_ _|refine blk_drew ?_|refine blk_alloc ?_ _));exact BK256.out⟩,⟨by repeat (first|(with_reducible first|exact HB.out|apply below_alloc|apply pw_below_drewN|apply below_drew1|refine below_set ?_ GE246.out|refine below_set ?_ GE254.out|refine below_set ?_ GE256.out)|exact HB.out)⟩⟩
                  ·replace c56:=Bool.eq_false_iff.mpr c56
                   subst c56
                   have H1 : (some ((⟨#[]⟩ : ByteArray),(⟨#[]⟩ : ByteArray),0,(⟨#[]⟩ : ByteArray),(⟨#[]⟩ : ByteArray),3)) = some (r1,r2,r3,r4,r5,r6):=by rw [if_neg (show ¬ (false = true) by decide)] at H;exact H
                   clear H
                   have H:=H1
                   clear H1
                   simp only [Option.some.injEq,Prod.mk.injEq] at H
                   obtain ⟨rfl,rfl,rfl,rfl,rfl,rfl⟩:=H
                   have hnb60:=NB256_246.out
                   have hnc60:=NB246_256.out
                   have hnb61:=NB256_254.out
                   have hnc61:=NB254_256.out
                   have hcz62_0 : wr.cell? ⟨gb256,0,none⟩ = some (.string t250):=(blk_cell BK256.out 0).trans rfl
                   have hcz62_1 : wr.cell? ⟨gb256,1,none⟩ = some (.string t251):=(blk_cell BK256.out 1).trans rfl
                   have hcz62_2 : wr.cell? ⟨gb256,2,none⟩ = some (.int .i64 t252):=(blk_cell BK256.out 2).trans rfl
                   have hcz62_3 : wr.cell? ⟨gb256,3,none⟩ = some (.string x2_):=(blk_cell BK256.out 3).trans rfl
                   have hcz62_4 : wr.cell? ⟨gb256,4,none⟩ = some (.string x3_):=(blk_cell BK256.out 4).trans rfl
                   have hfz62_0:=blk_frozen BK256.out 0
                   have hfz62_1:=blk_frozen BK256.out 1
                   have hfz62_2:=blk_frozen BK256.out 2
                   have hfz62_3:=blk_frozen BK256.out 3
                   have hfz62_4:=blk_frozen BK256.out 4
                   have p54 : 0 ≤ (x11_2 : Int):=of_decide_eq_true (by first|(with_reducible assumption)|assumption)
                   have q54 : x11_2 < (x3_.size : Int):=of_decide_eq_true (by first|(with_reducible assumption)|assumption)
                   have hx54:=bt_at x3_ x11_2
                   replace p54:=eq_true p54
                   replace q54:=eq_true q54
                   go_wp2_with (first|((with_reducible refine gate_callee (f:=57) rfl ?_);refine goesL_ (some 77) rfl rfl Tryd.func57 (by kernel_rfl) rfl #[.int .u8 (bt x3_ x11_2)] rfl (by (try simp only [List.map_toArray,List.map_cons,List.map_nil]);first|done|rfl|(simp only [List.length_drop,List.length_take];rfl)) ?_;(with_reducible refine (lockkeeperref4_queryByte.calls k2 (bt x3_ x11_2) false _ A55.out).mono ?_);rintro e w' ⟨rfl,⟨nd,rfl⟩⟩;refine ⟨_,rfl,?_⟩;(try (rw [drewN_self wr];generalize hq_ : World.drewN wr _ = wr;have n0_ : Aside0 (wr.heap[gb246]? = some (.cells #[.string x247000_2,.string x247001_2,.int .i64 x247002_2,.string x247003_2,.string x247004_2] 44 (0,0))):=⟨by rw [← hq_];exact (by (with_reducible repeat (first|refine blk_drewN ?_ _|refine blk_drew ?_|refine blk_alloc ?_ _));exact BK246.out)⟩;have n1_ : Aside0 (wr.heap[gb254]? = some (.cells #[.string t250,.string t251,.int .i64 t252] 23 (0,0))):=⟨by rw [← hq_];exact (by (with_reducible repeat (first|refine blk_drewN ?_ _|refine blk_drew ?_|refine blk_alloc ?_ _));exact BK254.out)⟩;have n2_ : Aside0 (wr.heap[gb256]? = some (.cells #[.string t250,.string t251,.int .i64 t252,.string x2_,.string x3_] 44 (0,0))):=⟨by rw [← hq_];exact (by (with_reducible repeat (first|refine blk_drewN ?_ _|refine blk_drew ?_|refine blk_alloc ?_ _));exact BK256.out)⟩;have n3_ : Aside0 (Below w.heap.size w wr):=⟨by rw [← hq_];exact (by repeat (first|(with_reducible first|exact HB.out|apply below_alloc|apply pw_below_drewN|apply below_drew1|refine below_set ?_ GE246.out|refine below_set ?_ GE254.out|refine below_set ?_ GE256.out)|exact HB.out))⟩;clear BK246 BK254 BK256 HB hq_;have BK246:=n0_;have BK254:=n1_;have BK256:=n2_;have HB:=n3_;clear n0_ n1_ n2_ n3_));have hnb63:=NB246_254.out;have hnc63:=NB254_246.out;have hcz64_0 : wr.cell? ⟨gb246,0,none⟩ = some (.string x247000_2):=(blk_cell BK246.out 0).trans rfl;have hcz64_1 : wr.cell? ⟨gb246,1,none⟩ = some (.string x247001_2):=(blk_cell BK246.out 1).trans rfl;have hcz64_2 : wr.cell? ⟨gb246,2,none⟩ = some (.int .i64 x247002_2):=(blk_cell BK246.out 2).trans rfl;have hcz64_3 : wr.cell? ⟨gb246,3,none⟩ = some (.string x247003_2):=(blk_cell BK246.out 3).trans rfl;have hcz64_4 : wr.cell? ⟨gb246,4,none⟩ = some (.string x247004_2):=(blk_cell BK246.out 4).trans rfl;have hfz64_0:=blk_frozen BK246.out 0;have hfz64_1:=blk_frozen BK246.out 1;have hfz64_2:=blk_frozen BK246.out 2;have hfz64_3:=blk_frozen BK246.out 3;have hfz64_4:=blk_frozen BK246.out 4))
                   refine bodyPost_ret (results_ct rfl _ _ gb246 44 #[.string (⟨#[]⟩ : ByteArray),.string (⟨#[]⟩ : ByteArray),.int .i64 0,.string (⟨#[]⟩ : ByteArray),.string (⟨#[]⟩ : ByteArray)] (0,0) _ rfl (by (with_reducible repeat (first|refine blk_drewN ?_ _|refine blk_drew ?_|refine blk_alloc ?_ _));refine blk_put (cs:=#[.string (⟨#[]⟩ : ByteArray),.string (⟨#[]⟩ : ByteArray),.int .i64 0,.string (⟨#[]⟩ : ByteArray),.string x247004_2]) ?_ 4 _ rfl;(with_reducible repeat (first|refine blk_drewN ?_ _|refine blk_drew ?_|refine blk_alloc ?_ _));refine blk_put (cs:=#[.string (⟨#[]⟩ : ByteArray),.string (⟨#[]⟩ : ByteArray),.int .i64 0,.string x247003_2,.string x247004_2]) ?_ 3 _ rfl;(with_reducible repeat (first|refine blk_drewN ?_ _|refine blk_drew ?_|refine blk_alloc ?_ _));refine blk_put (cs:=#[.string (⟨#[]⟩ : ByteArray),.string (⟨#[]⟩ : ByteArray),.int .i64 x247002_2,.string x247003_2,.string x247004_2]) ?_ 2 _ rfl;(with_reducible repeat (first|refine blk_drewN ?_ _|refine blk_drew ?_|refine blk_alloc ?_ _));refine blk_put (cs:=#[.string (⟨#[]⟩ : ByteArray),.string x247001_2,.int .i64 x247002_2,.string x247003_2,.string x247004_2]) ?_ 1 _ rfl;(with_reducible repeat (first|refine blk_drewN ?_ _|refine blk_drew ?_|refine blk_alloc ?_ _));refine blk_put (cs:=#[.string x247000_2,.string x247001_2,.int .i64 x247002_2,.string x247003_2,.string x247004_2]) ?_ 0 _ rfl;(with_reducible repeat (first|refine blk_drewN ?_ _|refine blk_drew ?_|refine blk_alloc ?_ _));exact BK246.out) Tryd.underlying44 rfl (by kernel_rfl)) rfl ?_
                   exact ⟨by first|rfl|(simp [errW_none,errW_some] <;> rfl)|(simp [*,errW_none,errW_some] <;> rfl),by repeat (first|(with_reducible first|exact HB.out|apply below_alloc|apply pw_below_drewN|apply below_drew1|refine below_set ?_ GE246.out|refine below_set ?_ GE254.out|refine below_set ?_ GE256.out)|exact HB.out)⟩
                 ·rw [if_neg c53] at H
                  exact absurd H (by simp)
                ·rw [if_neg c52] at H
                 have c52b0 : decide (x11_2 < (x3_.size : Int)) = false:=decide_eq_false c52
                 clear c52
                 replace H:=Option.bind_eq_some_iff.mp H
                 obtain ⟨t259,A650,H⟩:=H
                 replace H : ((lockkeeperref3_Show.f k2 t250 t251 t252).bind fun t260 => (if (wrap64 ((wrap64 ((t260.size : Int) + (t259.size : Int))) + (x3_.size : Int))) > 512 then (some ((⟨#[]⟩ : ByteArray),(⟨#[]⟩ : ByteArray),0,(⟨#[]⟩ : ByteArray),(⟨#[]⟩ : ByteArray),4)) else (some (t250,t251,t252,t259,x3_,0)))) = some (r1,r2,r3,r4,r5,r6):=H
                 have A65:=Aside0.mk A650
                 clear A650
                 replace H:=Option.bind_eq_some_iff.mp H
                 obtain ⟨t260,A660,H⟩:=H
                 replace H : (if (wrap64 ((wrap64 ((t260.size : Int) + (t259.size : Int))) + (x3_.size : Int))) > 512 then (some ((⟨#[]⟩ : ByteArray),(⟨#[]⟩ : ByteArray),0,(⟨#[]⟩ : ByteArray),(⟨#[]⟩ : ByteArray),4)) else (some (t250,t251,t252,t259,x3_,0))) = some (r1,r2,r3,r4,r5,r6):=H
                 have A66:=Aside0.mk A660
                 clear A660
                 by_cases c67 : (wrap64 ((wrap64 ((t260.size : Int) + (t259.size : Int))) + (x3_.size : Int))) > 512
                 ·rw [if_pos c67] at H
                  have c67b0 : decide (512 < (wrap64 ((wrap64 ((t260.size : Int) + (t259.size : Int))) + (x3_.size : Int)))) = true:=decide_eq_true c67
                  clear c67
                  simp only [Option.some.injEq,Prod.mk.injEq] at H
                  obtain ⟨rfl,rfl,rfl,rfl,rfl,rfl⟩:=H
                  have hnb68:=NB256_246.out
                  have hnc68:=NB246_256.out
                  have hnb69:=NB256_254.out
                  have hnc69:=NB254_256.out
                  have hcz70_0 : wr.cell? ⟨gb256,0,none⟩ = some (.string t250):=(blk_cell BK256.out 0).trans rfl
                  have hcz70_1 : wr.cell? ⟨gb256,1,none⟩ = some (.string t251):=(blk_cell BK256.out 1).trans rfl
                  have hcz70_2 : wr.cell? ⟨gb256,2,none⟩ = some (.int .i64 t252):=(blk_cell BK256.out 2).trans rfl
                  have hcz70_3 : wr.cell? ⟨gb256,3,none⟩ = some (.string x2_):=(blk_cell BK256.out 3).trans rfl
                  have hcz70_4 : wr.cell? ⟨gb256,4,none⟩ = some (.string x3_):=(blk_cell BK256.out 4).trans rfl
                  have hfz70_0:=blk_frozen BK256.out 0
                  have hfz70_1:=blk_frozen BK256.out 1
                  have hfz70_2:=blk_frozen BK256.out 2
                  have hfz70_3:=blk_frozen BK256.out 3
                  have hfz70_4:=blk_frozen BK256.out 4
                  try go_wp2_with (first|((with_reducible refine gate_callee (f:=37) rfl ?_);refine goesL_ (some 82) rfl rfl Tryd.func37 (by kernel_rfl) rfl #[.string x2_] rfl (by (try simp only [List.map_toArray,List.map_cons,List.map_nil]);first|done|rfl|(simp only [List.length_drop,List.length_take];rfl)) ?_;(with_reducible refine (lockkeeperref4_Clean.calls k2 x2_ t259 _ A65.out).mono ?_);rintro e w71 ⟨rfl,hb⟩;refine ⟨_,rfl,?_⟩;have n0_:=Aside0.mk (blk_below (g:=gb246) (o:=.cells #[.string x247000_2,.string x247001_2,.int .i64 x247002_2,.string x247003_2,.string x247004_2] 44 (0,0)) (by (with_reducible repeat (first|refine blk_drewN ?_ _|refine blk_drew ?_|refine blk_alloc ?_ _));exact BK246.out) hb);have n1_:=Aside0.mk (blk_below (g:=gb254) (o:=.cells #[.string t250,.string t251,.int .i64 t252] 23 (0,0)) (by (with_reducible repeat (first|refine blk_drewN ?_ _|refine blk_drew ?_|refine blk_alloc ?_ _));exact BK254.out) hb);have n2_:=Aside0.mk (blk_below (g:=gb256) (o:=.cells #[.string t250,.string t251,.int .i64 t252,.string x2_,.string x3_] 44 (0,0)) (by (with_reducible repeat (first|refine blk_drewN ?_ _|refine blk_drew ?_|refine blk_alloc ?_ _));exact BK256.out) hb);have n3_:=Aside0.mk (below_step (by repeat (first|(with_reducible first|exact HB.out|apply below_alloc|apply pw_below_drewN|apply below_drew1|refine below_set ?_ GE246.out|refine below_set ?_ GE254.out|refine below_set ?_ GE256.out)|exact HB.out)) hb);clear BK246;clear BK254;clear BK256;clear HB;have BK246:=n0_;have BK254:=n1_;have BK256:=n2_;have HB:=n3_;clear n0_ n1_ n2_ n3_;(try clear hb);(try clear hb2);(try clear hk);(try clear hi);have hcz72_0 : w71.cell? ⟨gb256,0,none⟩ = some (.string t250):=(blk_cell BK256.out 0).trans rfl;have hcz72_1 : w71.cell? ⟨gb256,1,none⟩ = some (.string t251):=(blk_cell BK256.out 1).trans rfl;have hcz72_2 : w71.cell? ⟨gb256,2,none⟩ = some (.int .i64 t252):=(blk_cell BK256.out 2).trans rfl;have hcz72_3 : w71.cell? ⟨gb256,3,none⟩ = some (.string x2_):=(blk_cell BK256.out 3).trans rfl;have hcz72_4 : w71.cell? ⟨gb256,4,none⟩ = some (.string x3_):=(blk_cell BK256.out 4).trans rfl;have hfz72_0:=blk_frozen BK256.out 0;have hfz72_1:=blk_frozen BK256.out 1;have hfz72_2:=blk_frozen BK256.out 2;have hfz72_3:=blk_frozen BK256.out 3;have hfz72_4:=blk_frozen BK256.out 4))
                  have n0_ : Aside0 ((w71.setCell ⟨gb256,3,none⟩ (.string t259)).heap[gb246]? = some (.cells #[.string x247000_2,.string x247001_2,.int .i64 x247002_2,.string x247003_2,.string x247004_2] 44 (0,0))):=⟨by (with_reducible repeat (first|refine blk_drewN ?_ _|refine blk_drew ?_|refine blk_alloc ?_ _));refine blk_far ?_ NB246_256.out _;(with_reducible repeat (first|refine blk_drewN ?_ _|refine blk_drew ?_|refine blk_alloc ?_ _));exact BK246.out⟩
                  have n1_ : Aside0 ((w71.setCell ⟨gb256,3,none⟩ (.string t259)).heap[gb254]? = some (.cells #[.string t250,.string t251,.int .i64 t252] 23 (0,0))):=⟨by (with_reducible repeat (first|refine blk_drewN ?_ _|refine blk_drew ?_|refine blk_alloc ?_ _));refine blk_far ?_ NB254_256.out _;(with_reducible repeat (first|refine blk_drewN ?_ _|refine blk_drew ?_|refine blk_alloc ?_ _));exact BK254.out⟩
                  have n2_ : Aside0 ((w71.setCell ⟨gb256,3,none⟩ (.string t259)).heap[gb256]? = some (.cells #[.string t250,.string t251,.int .i64 t252,.string t259,.string x3_] 44 (0,0))):=⟨by (with_reducible repeat (first|refine blk_drewN ?_ _|refine blk_drew ?_|refine blk_alloc ?_ _));refine blk_put (cs:=#[.string t250,.string t251,.int .i64 t252,.string x2_,.string x3_]) ?_ 3 _ rfl;(with_reducible repeat (first|refine blk_drewN ?_ _|refine blk_drew ?_|refine blk_alloc ?_ _));exact BK256.out⟩
                  have n3_ : Aside0 (Below w.heap.size w (w71.setCell ⟨gb256,3,none⟩ (.string t259))):=⟨by repeat (first|(with_reducible first|exact HB.out|apply below_alloc|apply pw_below_drewN|apply below_drew1|refine below_set ?_ GE246.out|refine below_set ?_ GE254.out|refine below_set ?_ GE256.out)|exact HB.out)⟩
                  (try clear BK246)
                  (try clear BK254)
                  (try clear BK256)
                  (try clear HB)
                  generalize (w71.setCell ⟨gb256,3,none⟩ (.string t259)) = w73 at n0_ n1_ n2_ n3_ ⊢
                  have BK246:=n0_
                  have BK254:=n1_
                  have BK256:=n2_
                  have HB:=n3_
                  clear n0_ n1_ n2_ n3_
                  have n0_:=Aside0.mk (blk_drew BK246.out)
                  have n1_:=Aside0.mk (blk_drew BK254.out)
                  have n2_:=Aside0.mk (blk_drew BK256.out)
                  have n3_:=Aside0.mk (below_drew1 HB.out)
                  clear BK246
                  clear BK254
                  clear BK256
                  clear HB
                  have BK246:=n0_
                  have BK254:=n1_
                  have BK256:=n2_
                  have HB:=n3_
                  clear n0_ n1_ n2_ n3_
                  refine start_ (n:=12) (S:=fun w' => w'.cell? ⟨gb254,0,none⟩ = some (.string t250) ∧ w'.cell? ⟨gb254,1,none⟩ = some (.string t251) ∧ w'.cell? ⟨gb254,2,none⟩ = some (.int .i64 t252) ∧ w'.cell? ⟨gb256,0,none⟩ = some (.string t250) ∧ w'.cell? ⟨gb256,1,none⟩ = some (.string t251) ∧ w'.cell? ⟨gb256,2,none⟩ = some (.int .i64 t252) ∧ w'.cell? ⟨gb256,3,none⟩ = some (.string t259) ∧ w'.cell? ⟨gb256,4,none⟩ = some (.string x3_)) (ds:=[]) lockkeeperref4_Parse_b0 (by kernel_rfl) rfl rfl ⟨(blk_cell BK254.out 0).trans rfl,(blk_cell BK254.out 1).trans rfl,(blk_cell BK254.out 2).trans rfl,(blk_cell BK256.out 0).trans rfl,(blk_cell BK256.out 1).trans rfl,(blk_cell BK256.out 2).trans rfl,(blk_cell BK256.out 3).trans rfl,(blk_cell BK256.out 4).trans rfl⟩ (fun hHeld => ?_);refine with_tabW lockkeeperref4_Parse.tab24 lockkeeperref4_Parse.bits24 (fun HT_ HW_ => ?_)
                  generalize w73.drew = w74 at BK246 BK254 BK256 HB hHeld ⊢
                  refine pure_ (i:=3) (N:=some 87) (v:=?_) (a':=?_) lockkeeperref4_Parse_b1 rfl rfl (any_of HT_.out (by kernel_rfl)) (fun _ _ _ h => h) (Or.inl ⟨by rfl,?_⟩) ?_ ?_
                  rotate_left
                  ·intro w'
                   go_simp
                   with_reducible rfl
                  rotate_left
                  ·simp only [Act.put,List.setIfInBounds_toArray,List.set_cons_zero,List.set_cons_succ,i64_w,i32_w]
                   rfl
                  refine pure_ (i:=7) (N:=some 91) (v:=?_) (a':=?_) lockkeeperref4_Parse_b2 rfl rfl (any_of HT_.out (by kernel_rfl)) (fun _ _ _ h => h) (Or.inl ⟨by rfl,?_⟩) ?_ ?_
                  rotate_left
                  ·intro w'
                   go_simp
                   with_reducible rfl
                  rotate_left
                  ·simp only [Act.put,List.setIfInBounds_toArray,List.set_cons_zero,List.set_cons_succ,i64_w,i32_w]
                   rfl
                  refine take_ (i:=0) (N:=some 84) (v:=?_) (a':=?_) lockkeeperref4_Parse_b3 rfl rfl (take_ofW HT_.out HW_.out (by kernel_rfl)) (fun _ _ _ h => h) (Or.inl ⟨by rfl,?_⟩) hHeld ?_ ?_
                  rotate_left
                  ·rintro w' ⟨s0,s1,s2,s3,s4,s5,s6,s7⟩
                   go_simp
                   with_reducible rfl
                  rotate_left
                  ·simp only [Act.put,List.setIfInBounds_toArray,List.set_cons_zero,List.set_cons_succ,i64_w,i32_w]
                   rfl
                  refine take_ (i:=4) (N:=some 88) (v:=?_) (a':=?_) lockkeeperref4_Parse_b4 rfl rfl (take_ofW HT_.out HW_.out (by kernel_rfl)) (fun _ _ _ h => h) (Or.inl ⟨by rfl,?_⟩) hHeld ?_ ?_
                  rotate_left
                  ·rintro w' ⟨s0,s1,s2,s3,s4,s5,s6,s7⟩
                   go_simp
                   with_reducible rfl
                  rotate_left
                  ·simp only [Act.put,List.setIfInBounds_toArray,List.set_cons_zero,List.set_cons_succ,i64_w,i32_w]
                   rfl
                  refine pure_ (i:=5) (N:=some 89) (v:=?_) (a':=?_) lockkeeperref4_Parse_b5 rfl rfl (any_of HT_.out (by kernel_rfl)) (fun _ _ _ h => h) (Or.inl ⟨by rfl,?_⟩) ?_ ?_
                  rotate_left
                  ·intro w'
                   go_simp
                   with_reducible rfl
                  rotate_left
                  ·simp only [Act.put,List.setIfInBounds_toArray,List.set_cons_zero,List.set_cons_succ,i64_w,i32_w]
                   rfl
                  refine take_ (i:=8) (N:=some 92) (v:=?_) (a':=?_) lockkeeperref4_Parse_b6 rfl rfl (take_ofW HT_.out HW_.out (by kernel_rfl)) (fun _ _ _ h => h) (Or.inl ⟨by rfl,?_⟩) hHeld ?_ ?_
                  rotate_left
                  ·rintro w' ⟨s0,s1,s2,s3,s4,s5,s6,s7⟩
                   go_simp
                   with_reducible rfl
                  rotate_left
                  ·simp only [Act.put,List.setIfInBounds_toArray,List.set_cons_zero,List.set_cons_succ,i64_w,i32_w]
                   rfl
                  refine pure_ (i:=9) (N:=some 93) (v:=?_) (a':=?_) lockkeeperref4_Parse_b7 rfl rfl (any_of HT_.out (by kernel_rfl)) (fun _ _ _ h => h) (Or.inl ⟨by rfl,?_⟩) ?_ ?_
                  rotate_left
                  ·intro w'
                   go_simp
                   with_reducible rfl
                  rotate_left
                  ·simp only [Act.put,List.setIfInBounds_toArray,List.set_cons_zero,List.set_cons_succ,i64_w,i32_w]
                   rfl
                  refine one_ (i:=1) (N:=some 85) lockkeeperref4_Parse_b8 rfl rfl (one_of HT_.out (by kernel_rfl)) (by decide) (fun K hK => ?_)
                  refine goes_ Tryd.func24 (by kernel_rfl) rfl #[.agg #[.string t250,.string t251,.int .i64 t252]] (by rfl) rfl rfl (by (try simp only [List.map_toArray,List.map_cons,List.map_nil]);first|done|rfl|(simp only [List.length_drop,List.length_take];rfl)) ?_
                  with_reducible refine (lockkeeperref3_Show.calls k2 t250 t251 t252 t260 _ A66.out).mono ?_
                  rintro e w75 ⟨rfl,hb⟩
                  refine ⟨_,rfl,?_⟩
                  have n0_:=Aside0.mk (blk_below (g:=gb246) (o:=.cells #[.string x247000_2,.string x247001_2,.int .i64 x247002_2,.string x247003_2,.string x247004_2] 44 (0,0)) (by (with_reducible repeat (first|refine blk_drewN ?_ _|refine blk_drew ?_|refine blk_alloc ?_ _));exact BK246.out) hb)
                  have n1_:=Aside0.mk (blk_below (g:=gb254) (o:=.cells #[.string t250,.string t251,.int .i64 t252] 23 (0,0)) (by (with_reducible repeat (first|refine blk_drewN ?_ _|refine blk_drew ?_|refine blk_alloc ?_ _));exact BK254.out) hb)
                  have n2_:=Aside0.mk (blk_below (g:=gb256) (o:=.cells #[.string t250,.string t251,.int .i64 t252,.string t259,.string x3_] 44 (0,0)) (by (with_reducible repeat (first|refine blk_drewN ?_ _|refine blk_drew ?_|refine blk_alloc ?_ _));exact BK256.out) hb)
                  have n3_:=Aside0.mk (below_step (by repeat (first|(with_reducible first|exact HB.out|apply below_alloc|apply pw_below_drewN|apply below_drew1|refine below_set ?_ GE246.out|refine below_set ?_ GE254.out|refine below_set ?_ GE256.out)|exact HB.out)) hb)
                  clear BK246
                  clear BK254
                  clear BK256
                  clear HB
                  have BK246:=n0_
                  have BK254:=n1_
                  have BK256:=n2_
                  have HB:=n3_
                  clear n0_ n1_ n2_ n3_
                  (try clear hb)
                  (try clear hb2)
                  (try clear hk)
                  (try clear hi)
                  refine hK.out _ _ ⟨(blk_cell BK254.out 0).trans rfl,(blk_cell BK254.out 1).trans rfl,(blk_cell BK254.out 2).trans rfl,(blk_cell BK256.out 0).trans rfl,(blk_cell BK256.out 1).trans rfl,(blk_cell BK256.out 2).trans rfl,(blk_cell BK256.out 3).trans rfl,(blk_cell BK256.out 4).trans rfl⟩ (fun hHeld => ?_)
                  clear hK K
                  refine norm_ (a':=?_) ?_ ?_
                  rotate_left
                  ·show Act.put _ (some 85) _ = _
                   simp only [Act.put,List.setIfInBounds_toArray,List.set_cons_zero,List.set_cons_succ,i64_w,i32_w]
                   rfl
                  refine pure_ (i:=2) (N:=some 86) (v:=?_) (a':=?_) lockkeeperref4_Parse_b9 rfl rfl (any_of HT_.out (by kernel_rfl)) (fun _ _ _ h => h) (Or.inl ⟨by rfl,?_⟩) ?_ ?_
                  rotate_left
                  ·intro w'
                   go_simp
                   with_reducible rfl
                  rotate_left
                  ·simp only [Act.put,List.setIfInBounds_toArray,List.set_cons_zero,List.set_cons_succ,i64_w,i32_w]
                   rfl
                  refine pure_ (i:=6) (N:=some 90) (v:=?_) (a':=?_) lockkeeperref4_Parse_b10 rfl rfl (any_of HT_.out (by kernel_rfl)) (fun _ _ _ h => h) (Or.inl ⟨by rfl,?_⟩) ?_ ?_
                  rotate_left
                  ·intro w'
                   go_simp
                   with_reducible rfl
                  rotate_left
                  ·simp only [Act.put,List.setIfInBounds_toArray,List.set_cons_zero,List.set_cons_succ,i64_w,i32_w]
                   rfl
                  refine pure_ (i:=10) (N:=some 94) (v:=?_) (a':=?_) lockkeeperref4_Parse_b11 rfl rfl (any_of HT_.out (by kernel_rfl)) (fun _ _ _ h => h) (Or.inl ⟨by rfl,?_⟩) ?_ ?_
                  rotate_left
                  ·intro w'
                   go_simp
                   with_reducible rfl
                  rotate_left
                  ·simp only [Act.put,List.setIfInBounds_toArray,List.set_cons_zero,List.set_cons_succ,i64_w,i32_w]
                   rfl
                  refine pure_ (i:=11) (N:=some 95) (v:=?_) (a':=?_) lockkeeperref4_Parse_b12 rfl rfl (any_of HT_.out (by kernel_rfl)) (fun _ _ _ h => h) (Or.inl ⟨by rfl,?_⟩) ?_ ?_
                  rotate_left
                  ·intro w'
                   go_simp
                   with_reducible rfl
                  rotate_left
                  ·simp only [Act.put,List.setIfInBounds_toArray,List.set_cons_zero,List.set_cons_succ,i64_w,i32_w]
                   rfl
                  refine done_ (done_of HT_.out (by kernel_rfl)) ?_
                  have hnb76:=NB246_254.out
                  have hnc76:=NB254_246.out
                  have hcz77_0 : w75.cell? ⟨gb246,0,none⟩ = some (.string x247000_2):=(blk_cell BK246.out 0).trans rfl
                  have hcz77_1 : w75.cell? ⟨gb246,1,none⟩ = some (.string x247001_2):=(blk_cell BK246.out 1).trans rfl
                  have hcz77_2 : w75.cell? ⟨gb246,2,none⟩ = some (.int .i64 x247002_2):=(blk_cell BK246.out 2).trans rfl
                  have hcz77_3 : w75.cell? ⟨gb246,3,none⟩ = some (.string x247003_2):=(blk_cell BK246.out 3).trans rfl
                  have hcz77_4 : w75.cell? ⟨gb246,4,none⟩ = some (.string x247004_2):=(blk_cell BK246.out 4).trans rfl
                  have hfz77_0:=blk_frozen BK246.out 0
                  have hfz77_1:=blk_frozen BK246.out 1
                  have hfz77_2:=blk_frozen BK246.out 2
                  have hfz77_3:=blk_frozen BK246.out 3
                  have hfz77_4:=blk_frozen BK246.out 4
                  try go_wp2
                  refine bodyPost_ret (results_ct rfl _ _ gb246 44 #[.string (⟨#[]⟩ : ByteArray),.string (⟨#[]⟩ : ByteArray),.int .i64 0,.string (⟨#[]⟩ : ByteArray),.string (⟨#[]⟩ : ByteArray)] (0,0) _ rfl (by (with_reducible repeat (first|refine blk_drewN ?_ _|refine blk_drew ?_|refine blk_alloc ?_ _));refine blk_put (cs:=#[.string (⟨#[]⟩ : ByteArray),.string (⟨#[]⟩ : ByteArray),.int .i64 0,.string (⟨#[]⟩ : ByteArray),.string x247004_2]) ?_ 4 _ rfl;(with_reducible repeat (first|refine blk_drewN ?_ _|refine blk_drew ?_|refine blk_alloc ?_ _));refine blk_put (cs:=#[.string (⟨#[]⟩ : ByteArray),.string (⟨#[]⟩ : ByteArray),.int .i64 0,.string x247003_2,.string x247004_2]) ?_ 3 _ rfl;(with_reducible repeat (first|refine blk_drewN ?_ _|refine blk_drew ?_|refine blk_alloc ?_ _));refine blk_put (cs:=#[.string (⟨#[]⟩ : ByteArray),.string (⟨#[]⟩ : ByteArray),.int .i64 x247002_2,.string x247003_2,.string x247004_2]) ?_ 2 _ rfl;(with_reducible repeat (first|refine blk_drewN ?_ _|refine blk_drew ?_|refine blk_alloc ?_ _));refine blk_put (cs:=#[.string (⟨#[]⟩ : ByteArray),.string x247001_2,.int .i64 x247002_2,.string x247003_2,.string x247004_2]) ?_ 1 _ rfl;(with_reducible repeat (first|refine blk_drewN ?_ _|refine blk_drew ?_|refine blk_alloc ?_ _));refine blk_put (cs:=#[.string x247000_2,.string x247001_2,.int .i64 x247002_2,.string x247003_2,.string x247004_2]) ?_ 0 _ rfl;(with_reducible repeat (first|refine blk_drewN ?_ _|refine blk_drew ?_|refine blk_alloc ?_ _));exact BK246.out) Tryd.underlying44 rfl (by kernel_rfl)) rfl ?_
                  exact ⟨by first|rfl|(simp [errW_none,errW_some] <;> rfl)|(simp [*,errW_none,errW_some] <;> rfl),by repeat (first|(with_reducible first|exact HB.out|apply below_alloc|apply pw_below_drewN|apply below_drew1|refine below_set ?_ GE246.out|refine below_set ?_ GE254.out|refine below_set ?_ GE256.out)|exact HB.out)⟩
                 ·rw [if_neg c67] at H
                  have c67b0 : decide (512 < (wrap64 ((wrap64 ((t260.size : Int) + (t259.size : Int))) + (x3_.size : Int)))) = false:=decide_eq_false c67
                  clear c67
                  simp only [Option.some.injEq,Prod.mk.injEq] at H
                  obtain ⟨rfl,rfl,rfl,rfl,rfl,rfl⟩:=H
                  have hnb78:=NB256_246.out
                  have hnc78:=NB246_256.out
                  have hnb79:=NB256_254.out
                  have hnc79:=NB254_256.out
                  have hcz80_0 : wr.cell? ⟨gb256,0,none⟩ = some (.string t250):=(blk_cell BK256.out 0).trans rfl
                  have hcz80_1 : wr.cell? ⟨gb256,1,none⟩ = some (.string t251):=(blk_cell BK256.out 1).trans rfl
                  have hcz80_2 : wr.cell? ⟨gb256,2,none⟩ = some (.int .i64 t252):=(blk_cell BK256.out 2).trans rfl
                  have hcz80_3 : wr.cell? ⟨gb256,3,none⟩ = some (.string x2_):=(blk_cell BK256.out 3).trans rfl
                  have hcz80_4 : wr.cell? ⟨gb256,4,none⟩ = some (.string x3_):=(blk_cell BK256.out 4).trans rfl
                  have hfz80_0:=blk_frozen BK256.out 0
                  have hfz80_1:=blk_frozen BK256.out 1
                  have hfz80_2:=blk_frozen BK256.out 2
                  have hfz80_3:=blk_frozen BK256.out 3
                  have hfz80_4:=blk_frozen BK256.out 4
                  try go_wp2_with (first|((with_reducible refine gate_callee (f:=37) rfl ?_);refine goesL_ (some 82) rfl rfl Tryd.func37 (by kernel_rfl) rfl #[.string x2_] rfl (by (try simp only [List.map_toArray,List.map_cons,List.map_nil]);first|done|rfl|(simp only [List.length_drop,List.length_take];rfl)) ?_;(with_reducible refine (lockkeeperref4_Clean.calls k2 x2_ t259 _ A65.out).mono ?_);rintro e w81 ⟨rfl,hb⟩;refine ⟨_,rfl,?_⟩;have n0_:=Aside0.mk (blk_below (g:=gb246) (o:=.cells #[.string x247000_2,.string x247001_2,.int .i64 x247002_2,.string x247003_2,.string x247004_2] 44 (0,0)) (by (with_reducible repeat (first|refine blk_drewN ?_ _|refine blk_drew ?_|refine blk_alloc ?_ _));exact BK246.out) hb);have n1_:=Aside0.mk (blk_below (g:=gb254) (o:=.cells #[.string t250,.string t251,.int .i64 t252] 23 (0,0)) (by (with_reducible repeat (first|refine blk_drewN ?_ _|refine blk_drew ?_|refine blk_alloc ?_ _));exact BK254.out) hb);have n2_:=Aside0.mk (blk_below (g:=gb256) (o:=.cells #[.string t250,.string t251,.int .i64 t252,.string x2_,.string x3_] 44 (0,0)) (by (with_reducible repeat (first|refine blk_drewN ?_ _|refine blk_drew ?_|refine blk_alloc ?_ _));exact BK256.out) hb);have n3_:=Aside0.mk (below_step (by repeat (first|(with_reducible first|exact HB.out|apply below_alloc|apply pw_below_drewN|apply below_drew1|refine below_set ?_ GE246.out|refine below_set ?_ GE254.out|refine below_set ?_ GE256.out)|exact HB.out)) hb);clear BK246;clear BK254;clear BK256;clear HB;have BK246:=n0_;have BK254:=n1_;have BK256:=n2_;have HB:=n3_;clear n0_ n1_ n2_ n3_;(try clear hb);(try clear hb2);(try clear hk);(try clear hi);have hcz82_0 : w81.cell? ⟨gb256,0,none⟩ = some (.string t250):=(blk_cell BK256.out 0).trans rfl;have hcz82_1 : w81.cell? ⟨gb256,1,none⟩ = some (.string t251):=(blk_cell BK256.out 1).trans rfl;have hcz82_2 : w81.cell? ⟨gb256,2,none⟩ = some (.int .i64 t252):=(blk_cell BK256.out 2).trans rfl;have hcz82_3 : w81.cell? ⟨gb256,3,none⟩ = some (.string x2_):=(blk_cell BK256.out 3).trans rfl;have hcz82_4 : w81.cell? ⟨gb256,4,none⟩ = some (.string x3_):=(blk_cell BK256.out 4).trans rfl;have hfz82_0:=blk_frozen BK256.out 0;have hfz82_1:=blk_frozen BK256.out 1;have hfz82_2:=blk_frozen BK256.out 2;have hfz82_3:=blk_frozen BK256.out 3;have hfz82_4:=blk_frozen BK256.out 4))
                  have n0_ : Aside0 ((w81.setCell ⟨gb256,3,none⟩ (.string t259)).heap[gb246]? = some (.cells #[.string x247000_2,.string x247001_2,.int .i64 x247002_2,.string x247003_2,.string x247004_2] 44 (0,0))):=⟨by (with_reducible repeat (first|refine blk_drewN ?_ _|refine blk_drew ?_|refine blk_alloc ?_ _));refine blk_far ?_ NB246_256.out _;(with_reducible repeat (first|refine blk_drewN ?_ _|refine blk_drew ?_|refine blk_alloc ?_ _));exact BK246.out⟩
                  have n1_ : Aside0 ((w81.setCell ⟨gb256,3,none⟩ (.string t259)).heap[gb254]? = some (.cells #[.string t250,.string t251,.int .i64 t252] 23 (0,0))):=⟨by (with_reducible repeat (first|refine blk_drewN ?_ _|refine blk_drew ?_|refine blk_alloc ?_ _));refine blk_far ?_ NB254_256.out _;(with_reducible repeat (first|refine blk_drewN ?_ _|refine blk_drew ?_|refine blk_alloc ?_ _));exact BK254.out⟩
                  have n2_ : Aside0 ((w81.setCell ⟨gb256,3,none⟩ (.string t259)).heap[gb256]? = some (.cells #[.string t250,.string t251,.int .i64 t252,.string t259,.string x3_] 44 (0,0))):=⟨by (with_reducible repeat (first|refine blk_drewN ?_ _|refine blk_drew ?_|refine blk_alloc ?_ _));refine blk_put (cs:=#[.string t250,.string t251,.int .i64 t252,.string x2_,.string x3_]) ?_ 3 _ rfl;(with_reducible repeat (first|refine blk_drewN ?_ _|refine blk_drew ?_|refine blk_alloc ?_ _));exact BK256.out⟩
                  have n3_ : Aside0 (Below w.heap.size w (w81.setCell ⟨gb256,3,none⟩ (.string t259))):=⟨by repeat (first|(with_reducible first|exact HB.out|apply below_alloc|apply pw_below_drewN|apply below_drew1|refine below_set ?_ GE246.out|refine below_set ?_ GE254.out|refine below_set ?_ GE256.out)|exact HB.out)⟩
                  (try clear BK246)
                  (try clear BK254)
                  (try clear BK256)
                  (try clear HB)
                  generalize (w81.setCell ⟨gb256,3,none⟩ (.string t259)) = w83 at n0_ n1_ n2_ n3_ ⊢
                  have BK246:=n0_
                  have BK254:=n1_
                  have BK256:=n2_
                  have HB:=n3_
                  clear n0_ n1_ n2_ n3_
                  have n0_:=Aside0.mk (blk_drew BK246.out)
                  have n1_:=Aside0.mk (blk_drew BK254.out)
                  have n2_:=Aside0.mk (blk_drew BK256.out)
                  have n3_:=Aside0.mk (below_drew1 HB.out)
                  clear BK246
                  clear BK254
                  clear BK256
                  clear HB
                  have BK246:=n0_
                  have BK254:=n1_
                  have BK256:=n2_
                  have HB:=n3_
                  clear n0_ n1_ n2_ n3_
                  refine start_ (n:=12) (S:=fun w' => w'.cell? ⟨gb254,0,none⟩ = some (.string t250) ∧ w'.cell? ⟨gb254,1,none⟩ = some (.string t251) ∧ w'.cell? ⟨gb254,2,none⟩ = some (.int .i64 t252) ∧ w'.cell? ⟨gb256,0,none⟩ = some (.string t250) ∧ w'.cell? ⟨gb256,1,none⟩ = some (.string t251) ∧ w'.cell? ⟨gb256,2,none⟩ = some (.int .i64 t252) ∧ w'.cell? ⟨gb256,3,none⟩ = some (.string t259) ∧ w'.cell? ⟨gb256,4,none⟩ = some (.string x3_)) (ds:=[]) lockkeeperref4_Parse_b0 (by kernel_rfl) rfl rfl ⟨(blk_cell BK254.out 0).trans rfl,(blk_cell BK254.out 1).trans rfl,(blk_cell BK254.out 2).trans rfl,(blk_cell BK256.out 0).trans rfl,(blk_cell BK256.out 1).trans rfl,(blk_cell BK256.out 2).trans rfl,(blk_cell BK256.out 3).trans rfl,(blk_cell BK256.out 4).trans rfl⟩ (fun hHeld => ?_);refine with_tabW lockkeeperref4_Parse.tab24 lockkeeperref4_Parse.bits24 (fun HT_ HW_ => ?_)
                  generalize w83.drew = w84 at BK246 BK254 BK256 HB hHeld ⊢
                  refine pure_ (i:=3) (N:=some 87) (v:=?_) (a':=?_) lockkeeperref4_Parse_b1 rfl rfl (any_of HT_.out (by kernel_rfl)) (fun _ _ _ h => h) (Or.inl ⟨by rfl,?_⟩) ?_ ?_
                  rotate_left
                  ·intro w'
                   go_simp
                   with_reducible rfl
                  rotate_left
                  ·simp only [Act.put,List.setIfInBounds_toArray,List.set_cons_zero,List.set_cons_succ,i64_w,i32_w]
                   rfl
                  refine pure_ (i:=7) (N:=some 91) (v:=?_) (a':=?_) lockkeeperref4_Parse_b2 rfl rfl (any_of HT_.out (by kernel_rfl)) (fun _ _ _ h => h) (Or.inl ⟨by rfl,?_⟩) ?_ ?_
                  rotate_left
                  ·intro w'
                   go_simp
                   with_reducible rfl
                  rotate_left
                  ·simp only [Act.put,List.setIfInBounds_toArray,List.set_cons_zero,List.set_cons_succ,i64_w,i32_w]
                   rfl
                  refine take_ (i:=0) (N:=some 84) (v:=?_) (a':=?_) lockkeeperref4_Parse_b3 rfl rfl (take_ofW HT_.out HW_.out (by kernel_rfl)) (fun _ _ _ h => h) (Or.inl ⟨by rfl,?_⟩) hHeld ?_ ?_
                  rotate_left
                  ·rintro w' ⟨s0,s1,s2,s3,s4,s5,s6,s7⟩
                   go_simp
                   with_reducible rfl
                  rotate_left
                  ·simp only [Act.put,List.setIfInBounds_toArray,List.set_cons_zero,List.set_cons_succ,i64_w,i32_w]
                   rfl
                  refine take_ (i:=4) (N:=some 88) (v:=?_) (a':=?_) lockkeeperref4_Parse_b4 rfl rfl (take_ofW HT_.out HW_.out (by kernel_rfl)) (fun _ _ _ h => h) (Or.inl ⟨by rfl,?_⟩) hHeld ?_ ?_
                  rotate_left
                  ·rintro w' ⟨s0,s1,s2,s3,s4,s5,s6,s7⟩
                   go_simp
                   with_reducible rfl
                  rotate_left
                  ·simp only [Act.put,List.setIfInBounds_toArray,List.set_cons_zero,List.set_cons_succ,i64_w,i32_w]
                   rfl
                  refine pure_ (i:=5) (N:=some 89) (v:=?_) (a':=?_) lockkeeperref4_Parse_b5 rfl rfl (any_of HT_.out (by kernel_rfl)) (fun _ _ _ h => h) (Or.inl ⟨by rfl,?_⟩) ?_ ?_
                  rotate_left
                  ·intro w'
                   go_simp
                   with_reducible rfl
                  rotate_left
                  ·simp only [Act.put,List.setIfInBounds_toArray,List.set_cons_zero,List.set_cons_succ,i64_w,i32_w]
                   rfl
                  refine take_ (i:=8) (N:=some 92) (v:=?_) (a':=?_) lockkeeperref4_Parse_b6 rfl rfl (take_ofW HT_.out HW_.out (by kernel_rfl)) (fun _ _ _ h => h) (Or.inl ⟨by rfl,?_⟩) hHeld ?_ ?_
                  rotate_left
                  ·rintro w' ⟨s0,s1,s2,s3,s4,s5,s6,s7⟩
                   go_simp
                   with_reducible rfl
                  rotate_left
                  ·simp only [Act.put,List.setIfInBounds_toArray,List.set_cons_zero,List.set_cons_succ,i64_w,i32_w]
                   rfl
                  refine pure_ (i:=9) (N:=some 93) (v:=?_) (a':=?_) lockkeeperref4_Parse_b7 rfl rfl (any_of HT_.out (by kernel_rfl)) (fun _ _ _ h => h) (Or.inl ⟨by rfl,?_⟩) ?_ ?_
                  rotate_left
                  ·intro w'
                   go_simp
                   with_reducible rfl
                  rotate_left
                  ·simp only [Act.put,List.setIfInBounds_toArray,List.set_cons_zero,List.set_cons_succ,i64_w,i32_w]
                   rfl
                  refine one_ (i:=1) (N:=some 85) lockkeeperref4_Parse_b8 rfl rfl (one_of HT_.out (by kernel_rfl)) (by decide) (fun K hK => ?_)
                  refine goes_ Tryd.func24 (by kernel_rfl) rfl #[.agg #[.string t250,.string t251,.int .i64 t252]] (by rfl) rfl rfl (by (try simp only [List.map_toArray,List.map_cons,List.map_nil]);first|done|rfl|(simp only [List.length_drop,List.length_take];rfl)) ?_
                  with_reducible refine (lockkeeperref3_Show.calls k2 t250 t251 t252 t260 _ A66.out).mono ?_
                  rintro e w85 ⟨rfl,hb⟩
                  refine ⟨_,rfl,?_⟩
                  have n0_:=Aside0.mk (blk_below (g:=gb246) (o:=.cells #[.string x247000_2,.string x247001_2,.int .i64 x247002_2,.string x247003_2,.string x247004_2] 44 (0,0)) (by (with_reducible repeat (first|refine blk_drewN ?_ _|refine blk_drew ?_|refine blk_alloc ?_ _));exact BK246.out) hb)
                  have n1_:=Aside0.mk (blk_below (g:=gb254) (o:=.cells #[.string t250,.string t251,.int .i64 t252] 23 (0,0)) (by (with_reducible repeat (first|refine blk_drewN ?_ _|refine blk_drew ?_|refine blk_alloc ?_ _));exact BK254.out) hb)
                  have n2_:=Aside0.mk (blk_below (g:=gb256) (o:=.cells #[.string t250,.string t251,.int .i64 t252,.string t259,.string x3_] 44 (0,0)) (by (with_reducible repeat (first|refine blk_drewN ?_ _|refine blk_drew ?_|refine blk_alloc ?_ _));exact BK256.out) hb)
                  have n3_:=Aside0.mk (below_step (by repeat (first|(with_reducible first|exact HB.out|apply below_alloc|apply pw_below_drewN|apply below_drew1|refine below_set ?_ GE246.out|refine below_set ?_ GE254.out|refine below_set ?_ GE256.out)|exact HB.out)) hb)
                  clear BK246
                  clear BK254
                  clear BK256
                  clear HB
                  have BK246:=n0_
                  have BK254:=n1_
                  have BK256:=n2_
                  have HB:=n3_
                  clear n0_ n1_ n2_ n3_
                  (try clear hb)
                  (try clear hb2)
                  (try clear hk)
                  (try clear hi)
                  refine hK.out _ _ ⟨(blk_cell BK254.out 0).trans rfl,(blk_cell BK254.out 1).trans rfl,(blk_cell BK254.out 2).trans rfl,(blk_cell BK256.out 0).trans rfl,(blk_cell BK256.out 1).trans rfl,(blk_cell BK256.out 2).trans rfl,(blk_cell BK256.out 3).trans rfl,(blk_cell BK256.out 4).trans rfl⟩ (fun hHeld => ?_)
                  clear hK K
                  refine norm_ (a':=?_) ?_ ?_
                  rotate_left
                  ·show Act.put _ (some 85) _ = _
                   simp only [Act.put,List.setIfInBounds_toArray,List.set_cons_zero,List.set_cons_succ,i64_w,i32_w]
                   rfl
                  refine pure_ (i:=2) (N:=some 86) (v:=?_) (a':=?_) lockkeeperref4_Parse_b9 rfl rfl (any_of HT_.out (by kernel_rfl)) (fun _ _ _ h => h) (Or.inl ⟨by rfl,?_⟩) ?_ ?_
                  rotate_left
                  ·intro w'
                   go_simp
                   with_reducible rfl
                  rotate_left
                  ·simp only [Act.put,List.setIfInBounds_toArray,List.set_cons_zero,List.set_cons_succ,i64_w,i32_w]
                   rfl
                  refine pure_ (i:=6) (N:=some 90) (v:=?_) (a':=?_) lockkeeperref4_Parse_b10 rfl rfl (any_of HT_.out (by kernel_rfl)) (fun _ _ _ h => h) (Or.inl ⟨by rfl,?_⟩) ?_ ?_
                  rotate_left
                  ·intro w'
                   go_simp
                   with_reducible rfl
                  rotate_left
                  ·simp only [Act.put,List.setIfInBounds_toArray,List.set_cons_zero,List.set_cons_succ,i64_w,i32_w]
                   rfl
                  refine pure_ (i:=10) (N:=some 94) (v:=?_) (a':=?_) lockkeeperref4_Parse_b11 rfl rfl (any_of HT_.out (by kernel_rfl)) (fun _ _ _ h => h) (Or.inl ⟨by rfl,?_⟩) ?_ ?_
                  rotate_left
                  ·intro w'
                   go_simp
                   with_reducible rfl
                  rotate_left
                  ·simp only [Act.put,List.setIfInBounds_toArray,List.set_cons_zero,List.set_cons_succ,i64_w,i32_w]
                   rfl
                  refine pure_ (i:=11) (N:=some 95) (v:=?_) (a':=?_) lockkeeperref4_Parse_b12 rfl rfl (any_of HT_.out (by kernel_rfl)) (fun _ _ _ h => h) (Or.inl ⟨by rfl,?_⟩) ?_ ?_
                  rotate_left
                  ·intro w'
                   go_simp
                   with_reducible rfl
                  rotate_left
                  ·simp only [Act.put,List.setIfInBounds_toArray,List.set_cons_zero,List.set_cons_succ,i64_w,i32_w]
                   rfl
                  refine done_ (done_of HT_.out (by kernel_rfl)) ?_
                  have hcz86_0 : w85.cell? ⟨gb256,0,none⟩ = some (.string t250):=(blk_cell BK256.out 0).trans rfl
                  have hcz86_1 : w85.cell? ⟨gb256,1,none⟩ = some (.string t251):=(blk_cell BK256.out 1).trans rfl
                  have hcz86_2 : w85.cell? ⟨gb256,2,none⟩ = some (.int .i64 t252):=(blk_cell BK256.out 2).trans rfl
                  have hcz86_3 : w85.cell? ⟨gb256,3,none⟩ = some (.string t259):=(blk_cell BK256.out 3).trans rfl
                  have hcz86_4 : w85.cell? ⟨gb256,4,none⟩ = some (.string x3_):=(blk_cell BK256.out 4).trans rfl
                  have hfz86_0:=blk_frozen BK256.out 0
                  have hfz86_1:=blk_frozen BK256.out 1
                  have hfz86_2:=blk_frozen BK256.out 2
                  have hfz86_3:=blk_frozen BK256.out 3
                  have hfz86_4:=blk_frozen BK256.out 4
                  have hnb87:=NB246_254.out
                  have hnc87:=NB254_246.out
                  have hcz88_0 : w85.cell? ⟨gb246,0,none⟩ = some (.string x247000_2):=(blk_cell BK246.out 0).trans rfl
                  have hcz88_1 : w85.cell? ⟨gb246,1,none⟩ = some (.string x247001_2):=(blk_cell BK246.out 1).trans rfl
                  have hcz88_2 : w85.cell? ⟨gb246,2,none⟩ = some (.int .i64 x247002_2):=(blk_cell BK246.out 2).trans rfl
                  have hcz88_3 : w85.cell? ⟨gb246,3,none⟩ = some (.string x247003_2):=(blk_cell BK246.out 3).trans rfl
                  have hcz88_4 : w85.cell? ⟨gb246,4,none⟩ = some (.string x247004_2):=(blk_cell BK246.out 4).trans rfl
                  have hfz88_0:=blk_frozen BK246.out 0
                  have hfz88_1:=blk_frozen BK246.out 1
                  have hfz88_2:=blk_frozen BK246.out 2
                  have hfz88_3:=blk_frozen BK246.out 3
                  have hfz88_4:=blk_frozen BK246.out 4
                  try go_wp2
                  refine bodyPost_ret (results_ct rfl _ _ gb246 44 #[.string t250,.string t251,.int .i64 t252,.string t259,.string x3_] (0,0) _ rfl (by (with_reducible repeat (first|refine blk_drewN ?_ _|refine blk_drew ?_|refine blk_alloc ?_ _));refine blk_put (cs:=#[.string t250,.string t251,.int .i64 t252,.string t259,.string x247004_2]) ?_ 4 _ rfl;(with_reducible repeat (first|refine blk_drewN ?_ _|refine blk_drew ?_|refine blk_alloc ?_ _));refine blk_put (cs:=#[.string t250,.string t251,.int .i64 t252,.string x247003_2,.string x247004_2]) ?_ 3 _ rfl;(with_reducible repeat (first|refine blk_drewN ?_ _|refine blk_drew ?_|refine blk_alloc ?_ _));refine blk_put (cs:=#[.string t250,.string t251,.int .i64 x247002_2,.string x247003_2,.string x247004_2]) ?_ 2 _ rfl;(with_reducible repeat (first|refine blk_drewN ?_ _|refine blk_drew ?_|refine blk_alloc ?_ _));refine blk_put (cs:=#[.string t250,.string x247001_2,.int .i64 x247002_2,.string x247003_2,.string x247004_2]) ?_ 1 _ rfl;(with_reducible repeat (first|refine blk_drewN ?_ _|refine blk_drew ?_|refine blk_alloc ?_ _));refine blk_put (cs:=#[.string x247000_2,.string x247001_2,.int .i64 x247002_2,.string x247003_2,.string x247004_2]) ?_ 0 _ rfl;(with_reducible repeat (first|refine blk_drewN ?_ _|refine blk_drew ?_|refine blk_alloc ?_ _));exact BK246.out) Tryd.underlying44 rfl (by kernel_rfl)) rfl ?_
                  exact ⟨by first|rfl|(simp [errW_none,errW_some] <;> rfl)|(simp [*,errW_none,errW_some] <;> rfl),by repeat (first|(with_reducible first|exact HB.out|apply below_alloc|apply pw_below_drewN|apply below_drew1|refine below_set ?_ GE246.out|refine below_set ?_ GE254.out|refine below_set ?_ GE256.out)|exact HB.out)⟩
          ·rw [if_neg c21] at H
           exact absurd H (by simp)
         ·rw [if_neg c20] at H
          exact absurd H (by simp)
        ·rw [if_neg c19] at H
         exact absurd H (by simp)
       ·rw [if_neg c16] at H
        have c16b0 : (t253 == 0) = false:=beq_eq_false_iff_ne.mpr c16
        have c16b1 : (t253 != 0) = true:=bne_iff_ne.mpr c16
        simp only [Option.some.injEq,Prod.mk.injEq] at H
        obtain ⟨rfl,rfl,rfl,rfl,rfl,rfl⟩:=H
        go_enter Tryd.func35,Tryd.ntmps35
        go_wp2_with (first|((with_reducible refine gate_dst (N:=2) rfl ?_);refine box_event ?hg (N:=2) ?hd (cs:=#[.string (⟨#[]⟩ : ByteArray),.string (⟨#[]⟩ : ByteArray),.int .i64 0,.string (⟨#[]⟩ : ByteArray),.string (⟨#[]⟩ : ByteArray)]) (t:=44) ?hr ?_;(case hd => rfl);(case hg => rfl);(case hr => first|(go_simp;done)|(go_simp;rfl));intro gb246 hg w89 hbox hb;have n0_:=Aside0.mk (below_step (by repeat (first|(with_reducible first|exact HB.out|apply below_alloc|apply pw_below_drewN|apply below_drew1)|exact HB.out)) hb);have n1_:=Aside0.mk (hbox);have n2_:=Aside0.mk ((by rw [hg];exact (below_size (by repeat (first|(with_reducible first|exact HB.out|apply below_alloc|apply pw_below_drewN|apply below_drew1)|exact HB.out))) : w.heap.size ≤ gb246));have n3_:=Aside0.mk ((by rw [hg];exact (below_size (by repeat (first|(with_reducible first|exact HB.out|apply below_alloc|apply pw_below_drewN|apply below_drew1)|exact HB.out))) : w.heap.size ≤ gb246));clear HB;have HB:=n0_;have BK246:=n1_;have GW246:=n2_;have GE246:=n3_;clear n0_ n1_ n2_ n3_;clear hb hbox hg)|((with_reducible refine gate_callee (f:=55) rfl ?_);refine goesL_ (some 18) rfl rfl Tryd.func55 (by kernel_rfl) rfl #[.string a0,.int .i64 0,.string (⟨#[35]⟩ : ByteArray)] rfl (by (try simp only [List.map_toArray,List.map_cons,List.map_nil]);first|done|rfl|(simp only [List.length_drop,List.length_take];rfl)) ?_;(with_reducible refine (lockkeeperref4_first.calls k a0 0 (⟨#[35]⟩ : ByteArray) t247 _ A5.out).mono ?_);rintro e w' ⟨rfl,⟨nd,rfl⟩⟩;refine ⟨_,rfl,?_⟩;(try (rw [drewN_self w89];generalize hq_ : World.drewN w89 _ = w89;have n0_ : Aside0 (w89.heap[gb246]? = some (.cells #[.string (⟨#[]⟩ : ByteArray),.string (⟨#[]⟩ : ByteArray),.int .i64 0,.string (⟨#[]⟩ : ByteArray),.string (⟨#[]⟩ : ByteArray)] 44 (0,0))):=⟨by rw [← hq_];exact (by (with_reducible repeat (first|refine blk_drewN ?_ _|refine blk_drew ?_|refine blk_alloc ?_ _));exact BK246.out)⟩;have n1_ : Aside0 (Below w.heap.size w w89):=⟨by rw [← hq_];exact (by repeat (first|(with_reducible first|exact HB.out|apply below_alloc|apply pw_below_drewN|apply below_drew1|refine below_set ?_ GE246.out)|exact HB.out))⟩;clear BK246 HB hq_;have BK246:=n0_;have HB:=n1_;clear n0_ n1_)))|((with_reducible refine gate_callee (f:=42) rfl ?_);refine goesL_ (some 21) rfl rfl Tryd.func42 (by kernel_rfl) rfl #[.string x1_] rfl (by (try simp only [List.map_toArray,List.map_cons,List.map_nil]);first|done|rfl|(simp only [List.length_drop,List.length_take];rfl)) ?_;(with_reducible refine (lockkeeperref3_Behind.calls k x1_ t248 _ A8.out).mono ?_);rintro e w' ⟨rfl,⟨nd,rfl⟩⟩;refine ⟨_,rfl,?_⟩;(try (rw [drewN_self w89];generalize hq_ : World.drewN w89 _ = w89;have n0_ : Aside0 (w89.heap[gb246]? = some (.cells #[.string (⟨#[]⟩ : ByteArray),.string (⟨#[]⟩ : ByteArray),.int .i64 0,.string (⟨#[]⟩ : ByteArray),.string (⟨#[]⟩ : ByteArray)] 44 (0,0))):=⟨by rw [← hq_];exact (by (with_reducible repeat (first|refine blk_drewN ?_ _|refine blk_drew ?_|refine blk_alloc ?_ _));exact BK246.out)⟩;have n1_ : Aside0 (Below w.heap.size w w89):=⟨by rw [← hq_];exact (by repeat (first|(with_reducible first|exact HB.out|apply below_alloc|apply pw_below_drewN|apply below_drew1|refine below_set ?_ GE246.out)|exact HB.out))⟩;clear BK246 HB hq_;have BK246:=n0_;have HB:=n1_;clear n0_ n1_)))|((with_reducible refine gate_callee (f:=55) rfl ?_);refine goesL_ (some 28) rfl rfl Tryd.func55 (by kernel_rfl) rfl #[.string x1_,.int .i64 (wrap64 (t248 + 3)),.string (⟨#[47,63]⟩ : ByteArray)] rfl (by (try simp only [List.map_toArray,List.map_cons,List.map_nil]);first|done|rfl|(simp only [List.length_drop,List.length_take];rfl)) ?_;(with_reducible refine (lockkeeperref4_first.calls k x1_ (wrap64 (t248 + 3)) (⟨#[47,63]⟩ : ByteArray) t249 _ A12.out).mono ?_);rintro e w' ⟨rfl,⟨nd,rfl⟩⟩;refine ⟨_,rfl,?_⟩;(try (rw [drewN_self w89];generalize hq_ : World.drewN w89 _ = w89;have n0_ : Aside0 (w89.heap[gb246]? = some (.cells #[.string (⟨#[]⟩ : ByteArray),.string (⟨#[]⟩ : ByteArray),.int .i64 0,.string (⟨#[]⟩ : ByteArray),.string (⟨#[]⟩ : ByteArray)] 44 (0,0))):=⟨by rw [← hq_];exact (by (with_reducible repeat (first|refine blk_drewN ?_ _|refine blk_drew ?_|refine blk_alloc ?_ _));exact BK246.out)⟩;have n1_ : Aside0 (Below w.heap.size w w89):=⟨by rw [← hq_];exact (by repeat (first|(with_reducible first|exact HB.out|apply below_alloc|apply pw_below_drewN|apply below_drew1|refine below_set ?_ GE246.out)|exact HB.out))⟩;clear BK246 HB hq_;have BK246:=n0_;have HB:=n1_;clear n0_ n1_)))|((with_reducible refine gate_callee (f:=20) rfl ?_);refine goesL_ (some 33) rfl rfl Tryd.func20 (by kernel_rfl) rfl #[.string (x1_.extract 0 (t249 : Int).toNat)] rfl (by (try simp only [List.map_toArray,List.map_cons,List.map_nil]);first|done|rfl|(simp only [List.length_drop,List.length_take];rfl)) ?_;(with_reducible refine (lockkeeperref3_Parse.calls k (x1_.extract 0 (t249 : Int).toNat) t250 t251 t252 t253 _ A15.out).mono ?_);rintro e w90 ⟨rfl,hb⟩;refine ⟨_,rfl,?_⟩;have n0_:=Aside0.mk (blk_below (g:=gb246) (o:=.cells #[.string (⟨#[]⟩ : ByteArray),.string (⟨#[]⟩ : ByteArray),.int .i64 0,.string (⟨#[]⟩ : ByteArray),.string (⟨#[]⟩ : ByteArray)] 44 (0,0)) (by (with_reducible repeat (first|refine blk_drewN ?_ _|refine blk_drew ?_|refine blk_alloc ?_ _));exact BK246.out) hb);have n1_:=Aside0.mk (below_step (by repeat (first|(with_reducible first|exact HB.out|apply below_alloc|apply pw_below_drewN|apply below_drew1|refine below_set ?_ GE246.out)|exact HB.out)) hb);clear BK246;clear HB;have BK246:=n0_;have HB:=n1_;clear n0_ n1_;(try clear hb);(try clear hb2);(try clear hk);(try clear hi))|((with_reducible refine gate_dst (N:=6) rfl ?_);refine box_event ?hg (N:=6) ?hd (cs:=#[.string (⟨#[]⟩ : ByteArray),.string (⟨#[]⟩ : ByteArray),.int .i64 0]) (t:=23) ?hr ?_;(case hd => rfl);(case hg => rfl);(case hr => first|(go_simp;done)|(go_simp;rfl));intro gb254 hg w91 hbox hb;have n0_:=Aside0.mk (blk_below (g:=gb246) (o:=.cells #[.string (⟨#[]⟩ : ByteArray),.string (⟨#[]⟩ : ByteArray),.int .i64 0,.string (⟨#[]⟩ : ByteArray),.string (⟨#[]⟩ : ByteArray)] 44 (0,0)) (by (with_reducible repeat (first|refine blk_drewN ?_ _|refine blk_drew ?_|refine blk_alloc ?_ _));exact BK246.out) hb);have n1_:=Aside0.mk (below_step (by repeat (first|(with_reducible first|exact HB.out|apply below_alloc|apply pw_below_drewN|apply below_drew1|refine below_set ?_ GE246.out)|exact HB.out)) hb);have n2_:=Aside0.mk (hbox);have n3_:=Aside0.mk ((by rw [hg];exact (below_size (by repeat (first|(with_reducible first|exact HB.out|apply below_alloc|apply pw_below_drewN|apply below_drew1|refine below_set ?_ GE246.out)|exact HB.out))) : w.heap.size ≤ gb254));have n4_:=Aside0.mk ((by rw [hg];exact (below_size (by repeat (first|(with_reducible first|exact HB.out|apply below_alloc|apply pw_below_drewN|apply below_drew1|refine below_set ?_ GE246.out)|exact HB.out))) : w.heap.size ≤ gb254));have n5_:=Aside0.mk ((by rw [hg];exact Nat.ne_of_lt (blk_lt (g:=gb246) (o:=.cells #[.string (⟨#[]⟩ : ByteArray),.string (⟨#[]⟩ : ByteArray),.int .i64 0,.string (⟨#[]⟩ : ByteArray),.string (⟨#[]⟩ : ByteArray)] 44 (0,0)) (by (with_reducible repeat (first|refine blk_drewN ?_ _|refine blk_drew ?_|refine blk_alloc ?_ _));exact BK246.out)) : gb246 ≠ gb254));have n6_:=Aside0.mk ((by rw [hg];exact Nat.ne_of_gt (blk_lt (g:=gb246) (o:=.cells #[.string (⟨#[]⟩ : ByteArray),.string (⟨#[]⟩ : ByteArray),.int .i64 0,.string (⟨#[]⟩ : ByteArray),.string (⟨#[]⟩ : ByteArray)] 44 (0,0)) (by (with_reducible repeat (first|refine blk_drewN ?_ _|refine blk_drew ?_|refine blk_alloc ?_ _));exact BK246.out)) : gb254 ≠ gb246));clear BK246;clear HB;have BK246:=n0_;have HB:=n1_;have BK254:=n2_;have GW254:=n3_;have GE254:=n4_;have NB246_254:=n5_;have NB254_246:=n6_;clear n0_ n1_ n2_ n3_ n4_ n5_ n6_;clear hb hbox hg;have hnb92:=NB254_246.out;have hnc92:=NB246_254.out;have hcz93_0 : w91.cell? ⟨gb254,0,none⟩ = some (.string (⟨#[]⟩ : ByteArray)):=(blk_cell BK254.out 0).trans rfl;have hcz93_1 : w91.cell? ⟨gb254,1,none⟩ = some (.string (⟨#[]⟩ : ByteArray)):=(blk_cell BK254.out 1).trans rfl;have hcz93_2 : w91.cell? ⟨gb254,2,none⟩ = some (.int .i64 0):=(blk_cell BK254.out 2).trans rfl;have hfz93_0:=blk_frozen BK254.out 0;have hfz93_1:=blk_frozen BK254.out 1;have hfz93_2:=blk_frozen BK254.out 2;have hcz94_0 : w91.cell? ⟨gb246,0,none⟩ = some (.string (⟨#[]⟩ : ByteArray)):=(blk_cell BK246.out 0).trans rfl;have hcz94_1 : w91.cell? ⟨gb246,1,none⟩ = some (.string (⟨#[]⟩ : ByteArray)):=(blk_cell BK246.out 1).trans rfl;have hcz94_2 : w91.cell? ⟨gb246,2,none⟩ = some (.int .i64 0):=(blk_cell BK246.out 2).trans rfl;have hcz94_3 : w91.cell? ⟨gb246,3,none⟩ = some (.string (⟨#[]⟩ : ByteArray)):=(blk_cell BK246.out 3).trans rfl;have hcz94_4 : w91.cell? ⟨gb246,4,none⟩ = some (.string (⟨#[]⟩ : ByteArray)):=(blk_cell BK246.out 4).trans rfl;have hfz94_0:=blk_frozen BK246.out 0;have hfz94_1:=blk_frozen BK246.out 1;have hfz94_2:=blk_frozen BK246.out 2;have hfz94_3:=blk_frozen BK246.out 3;have hfz94_4:=blk_frozen BK246.out 4))
        refine bodyPost_ret (results_ct rfl _ _ gb246 44 #[.string (⟨#[]⟩ : ByteArray),.string (⟨#[]⟩ : ByteArray),.int .i64 0,.string (⟨#[]⟩ : ByteArray),.string (⟨#[]⟩ : ByteArray)] (0,0) _ rfl (by (with_reducible repeat (first|refine blk_drewN ?_ _|refine blk_drew ?_|refine blk_alloc ?_ _));refine blk_put (cs:=#[.string (⟨#[]⟩ : ByteArray),.string (⟨#[]⟩ : ByteArray),.int .i64 0,.string (⟨#[]⟩ : ByteArray),.string (⟨#[]⟩ : ByteArray)]) ?_ 4 _ rfl;(with_reducible repeat (first|refine blk_drewN ?_ _|refine blk_drew ?_|refine blk_alloc ?_ _));refine blk_put (cs:=#[.string (⟨#[]⟩ : ByteArray),.string (⟨#[]⟩ : ByteArray),.int .i64 0,.string (⟨#[]⟩ : ByteArray),.string (⟨#[]⟩ : ByteArray)]) ?_ 3 _ rfl;(with_reducible repeat (first|refine blk_drewN ?_ _|refine blk_drew ?_|refine blk_alloc ?_ _));refine blk_put (cs:=#[.string (⟨#[]⟩ : ByteArray),.string (⟨#[]⟩ : ByteArray),.int .i64 0,.string (⟨#[]⟩ : ByteArray),.string (⟨#[]⟩ : ByteArray)]) ?_ 2 _ rfl;(with_reducible repeat (first|refine blk_drewN ?_ _|refine blk_drew ?_|refine blk_alloc ?_ _));refine blk_put (cs:=#[.string (⟨#[]⟩ : ByteArray),.string (⟨#[]⟩ : ByteArray),.int .i64 0,.string (⟨#[]⟩ : ByteArray),.string (⟨#[]⟩ : ByteArray)]) ?_ 1 _ rfl;(with_reducible repeat (first|refine blk_drewN ?_ _|refine blk_drew ?_|refine blk_alloc ?_ _));refine blk_put (cs:=#[.string (⟨#[]⟩ : ByteArray),.string (⟨#[]⟩ : ByteArray),.int .i64 0,.string (⟨#[]⟩ : ByteArray),.string (⟨#[]⟩ : ByteArray)]) ?_ 0 _ rfl;(with_reducible repeat (first|refine blk_drewN ?_ _|refine blk_drew ?_|refine blk_alloc ?_ _));refine blk_far ?_ NB246_254.out _;(with_reducible repeat (first|refine blk_drewN ?_ _|refine blk_drew ?_|refine blk_alloc ?_ _));refine blk_far ?_ NB246_254.out _;(with_reducible repeat (first|refine blk_drewN ?_ _|refine blk_drew ?_|refine blk_alloc ?_ _));refine blk_far ?_ NB246_254.out _;(with_reducible repeat (first|refine blk_drewN ?_ _|refine blk_drew ?_|refine blk_alloc ?_ _));exact BK246.out) Tryd.underlying44 rfl (by kernel_rfl)) rfl ?_
        exact ⟨by first|rfl|(simp [errW_none,errW_some] <;> rfl)|(simp [*,errW_none,errW_some] <;> rfl),by repeat (first|(with_reducible first|exact HB.out|apply below_alloc|apply pw_below_drewN|apply below_drew1|refine below_set ?_ GE246.out|refine below_set ?_ GE254.out)|exact HB.out)⟩
      ·rw [if_neg c14] at H
       exact absurd H (by simp)
     ·rw [if_neg c13] at H
      exact absurd H (by simp)
   ·rw [if_neg c7] at H
    exact absurd H (by simp)
  ·rw [if_neg c6] at H
   exact absurd H (by simp)

end Go.Proofs.YtbfbidifodcedaaDoor.Pr
