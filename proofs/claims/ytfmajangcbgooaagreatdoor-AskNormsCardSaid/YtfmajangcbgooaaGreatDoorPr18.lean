-- Made by a program of this session (wip/xp/xp.py), over the print's words.
import Derived.Test.YtfmajangcbgooaaGreatDoorPr0
import Derived.Test.YtfmajangcbgooaaGreatDoorK0
import Derived.Test.YtfmajangcbgooaaGreatDoorPr2
import Derived.Test.YtfmajangcbgooaaGreatDoorPr3
import Derived.Test.YtfmajangcbgooaaGreatDoorPr13
import Derived.Test.YtfmajangcbgooaaGreatDoorPr14
import Derived.Test.YtfmajangcbgooaaGreatDoorPr16
import Derived.Test.YtfmajangcbgooaaGreatDoorPr17
import Derived.Test.YtfmajangcbgooaaGreatDoorG5
namespace Go.Proofs.YtfmajangcbgooaaGreatDoor.Pr
open Go.RowKit Go.Proofs.YtfmajangcbgooaaGreatDoorW.PrintWords Go.Proofs.YtfmajangcbgooaaGreatDoorW.PrintLast Go.Proofs.YtfmajangcbgooaaGreatDoorW.PrintMore
attribute [local go_sem] max2_int min2_int max_two min_two max_three min_three max_four min_four   -- for this text's walks alone
set_option linter.unusedVariables false
set_option linter.unusedSimpArgs false

attribute [local go_sem high] eqA43 eqA46
/-! ### lockkeeperlaw8_AskNorms: function 6 -/
def lockkeeperlaw8_AskNorms.f (k : Nat) (a0_0 : ByteArray) (a0_1 : ByteArray) (a0_2 : ByteArray) (a0_3 : Int) (a0_4 : Bool) (l0_5 : List (S28)) (a0_6 : Int) (a0_7 : Int) (a0_8 : Int) (a0_9 : Int) : Option (Bool) := (lockkeeperlaw0_GreatReq.f k a0_0 a0_1 a0_2 a0_3 a0_4 l0_5 a0_6 a0_7 a0_8 a0_9).bind fun t435 => (if t435 = true then ((lockkeeperlaw8_awake.f k).bind fun t436 => (some t436)) else ((ask_Norm.f k a0_0 a0_1 a0_2 a0_3 a0_4 l0_5 a0_6 a0_7 a0_8 a0_9).bind fun bt437 => ((ask_Check.f k a0_0 a0_1 a0_2 a0_3 a0_4 l0_5 a0_6 a0_7 a0_8 a0_9).bind fun t450 => (if t450 = 0 then ((ask_Check.f k bt437.1 bt437.2.1 bt437.2.2.1 bt437.2.2.2.1 bt437.2.2.2.2.1 bt437.2.2.2.2.2.1 bt437.2.2.2.2.2.2.1 bt437.2.2.2.2.2.2.2.1 bt437.2.2.2.2.2.2.2.2.1 bt437.2.2.2.2.2.2.2.2.2).bind fun t455 => (if t455 = 0 then ((ask_Norm.f k bt437.1 bt437.2.1 bt437.2.2.1 bt437.2.2.2.1 bt437.2.2.2.2.1 bt437.2.2.2.2.2.1 bt437.2.2.2.2.2.2.1 bt437.2.2.2.2.2.2.2.1 bt437.2.2.2.2.2.2.2.2.1 bt437.2.2.2.2.2.2.2.2.2).bind fun bt456 => ((lockkeeperlaw0_Req.f k bt456.1 bt456.2.1 bt456.2.2.1 bt456.2.2.2.1 bt456.2.2.2.2.1 bt456.2.2.2.2.2.1 bt456.2.2.2.2.2.2.1 bt456.2.2.2.2.2.2.2.1 bt456.2.2.2.2.2.2.2.2.1 bt456.2.2.2.2.2.2.2.2.2 bt437.1 bt437.2.1 bt437.2.2.1 bt437.2.2.2.1 bt437.2.2.2.2.1 bt437.2.2.2.2.2.1 bt437.2.2.2.2.2.2.1 bt437.2.2.2.2.2.2.2.1 bt437.2.2.2.2.2.2.2.2.1 bt437.2.2.2.2.2.2.2.2.2).bind fun t468 => (if t468 = true then ((ask_Cross.f k bt437.1 bt437.2.1 bt437.2.2.1 bt437.2.2.2.1 bt437.2.2.2.2.1 bt437.2.2.2.2.2.1 bt437.2.2.2.2.2.2.1 bt437.2.2.2.2.2.2.2.1 bt437.2.2.2.2.2.2.2.2.1 bt437.2.2.2.2.2.2.2.2.2).bind fun t469 => ((ask_Cross.f k a0_0 a0_1 a0_2 a0_3 a0_4 l0_5 a0_6 a0_7 a0_8 a0_9).bind fun t470 => (if (t469 == t470) = true then ((ask_Needs.f k bt437.1 bt437.2.1 bt437.2.2.1 bt437.2.2.2.1 bt437.2.2.2.2.1 bt437.2.2.2.2.2.1 bt437.2.2.2.2.2.2.1 bt437.2.2.2.2.2.2.2.1 bt437.2.2.2.2.2.2.2.2.1 bt437.2.2.2.2.2.2.2.2.2).bind fun t471 => ((ask_Needs.f k a0_0 a0_1 a0_2 a0_3 a0_4 l0_5 a0_6 a0_7 a0_8 a0_9).bind fun t472 => (if (t471 == t472) = true then ((ask_Key.f k bt437.1 bt437.2.1 bt437.2.2.1 bt437.2.2.2.1 bt437.2.2.2.2.1 bt437.2.2.2.2.2.1 bt437.2.2.2.2.2.2.1 bt437.2.2.2.2.2.2.2.1 bt437.2.2.2.2.2.2.2.2.1 bt437.2.2.2.2.2.2.2.2.2).bind fun t473 => ((ask_Key.f k a0_0 a0_1 a0_2 a0_3 a0_4 l0_5 a0_6 a0_7 a0_8 a0_9).bind fun t474 => (if t473.toList = t474.toList then ((ask_Cell.f k bt437.1 bt437.2.1 bt437.2.2.1 bt437.2.2.2.1 bt437.2.2.2.2.1 bt437.2.2.2.2.2.1 bt437.2.2.2.2.2.2.1 bt437.2.2.2.2.2.2.2.1 bt437.2.2.2.2.2.2.2.2.1 bt437.2.2.2.2.2.2.2.2.2).bind fun bt475 => ((ask_Cell.f k a0_0 a0_1 a0_2 a0_3 a0_4 l0_5 a0_6 a0_7 a0_8 a0_9).bind fun bt478 => (if (bt475.1.toList == bt478.1.toList && (bt475.2.1.toList == bt478.2.1.toList && (bt475.2.2 == bt478.2.2))) = true then ((ask_Want.f k bt437.1 bt437.2.1 bt437.2.2.1 bt437.2.2.2.1 bt437.2.2.2.2.1 bt437.2.2.2.2.2.1 bt437.2.2.2.2.2.2.1 bt437.2.2.2.2.2.2.2.1 bt437.2.2.2.2.2.2.2.2.1 bt437.2.2.2.2.2.2.2.2.2).bind fun bt481 => ((ask_Want.f k a0_0 a0_1 a0_2 a0_3 a0_4 l0_5 a0_6 a0_7 a0_8 a0_9).bind fun bt486 => (if ((bt481.1.toList == bt486.1.toList && (bt481.2.1.toList == bt486.2.1.toList && (bt481.2.2.1 == bt486.2.2.1))) && (bt481.2.2.2.1.toList == bt486.2.2.2.1.toList && (bt481.2.2.2.2.toList == bt486.2.2.2.2.toList))) = true then ((ask_Names.f k bt437.1 bt437.2.1 bt437.2.2.1 bt437.2.2.2.1 bt437.2.2.2.2.1 bt437.2.2.2.2.2.1 bt437.2.2.2.2.2.2.1 bt437.2.2.2.2.2.2.2.1 bt437.2.2.2.2.2.2.2.2.1 bt437.2.2.2.2.2.2.2.2.2).bind fun t491 => ((ask_Names.f k a0_0 a0_1 a0_2 a0_3 a0_4 l0_5 a0_6 a0_7 a0_8 a0_9).bind fun t494 => ((lockkeeperlaw0_Texts.f k t491 t494).bind fun t497 => (if t497 = true then ((lockkeeperlaw8_awake.f k).bind fun t498 => (some t498)) else (some false))))) else (some false)))) else (some false)))) else (some false)))) else (some false)))) else (some false)))) else (some false)))) else (some false))) else ((lockkeeperlaw0_Req.f k bt437.1 bt437.2.1 bt437.2.2.1 bt437.2.2.2.1 bt437.2.2.2.2.1 bt437.2.2.2.2.2.1 bt437.2.2.2.2.2.2.1 bt437.2.2.2.2.2.2.2.1 bt437.2.2.2.2.2.2.2.2.1 bt437.2.2.2.2.2.2.2.2.2 (⟨#[]⟩ : ByteArray) (⟨#[]⟩ : ByteArray) (⟨#[]⟩ : ByteArray) 0 false ([] : List (S28)) 0 0 0 0).bind fun t451 => (if t451 = true then ((ask_Needs.f k a0_0 a0_1 a0_2 a0_3 a0_4 l0_5 a0_6 a0_7 a0_8 a0_9).bind fun t452 => (if t452 = true then (some false) else ((ask_Key.f k a0_0 a0_1 a0_2 a0_3 a0_4 l0_5 a0_6 a0_7 a0_8 a0_9).bind fun t453 => (if t453.toList = ([] : List UInt8) then ((lockkeeperlaw8_awake.f k).bind fun t454 => (some t454)) else (some false))))) else (some false)))))))
theorem lockkeeperlaw8_AskNorms.mono : ∀ a0 a1 a2 a3 a4 a5 a6 a7 a8 a9 k, LeO (lockkeeperlaw8_AskNorms.f k a0 a1 a2 a3 a4 a5 a6 a7 a8 a9) (lockkeeperlaw8_AskNorms.f (k + 1) a0 a1 a2 a3 a4 a5 a6 a7 a8 a9) := by
 intro a0 a1 a2 a3 a4 a5 a6 a7 a8 a9 k
 have hm0 := @ask_Cell.mono; have hm1 := @ask_Check.mono; have hm2 := @ask_Cross.mono; have hm3 := @ask_Key.mono; have hm4 := @ask_Names.mono; have hm5 := @ask_Needs.mono; have hm6 := @ask_Norm.mono; have hm7 := @ask_Want.mono; have hm8 := @lockkeeperlaw0_GreatReq.mono; have hm9 := @lockkeeperlaw0_Req.mono; have hm10 := @lockkeeperlaw0_Texts.mono; have hm11 := @lockkeeperlaw8_awake.mono; unfold lockkeeperlaw8_AskNorms.f
 exact moE

def lockkeeperlaw8_AskNorms.T6 : Bool × List (List Nat × List Nat) := (true, [([], []), ([0], [0]), ([1], [1]), ([2, 1], [2]), ([3], [3]), ([4, 3, 3], [3, 4]), ([3], [3]), ([5, 6, 5, 3], [3, 5, 6]), ([3, 7], [3, 7]), ([8, 7], [8]), ([9], [9]), ([10, 9, 9], [9, 10]), ([9], [9]), ([12, 11, 9], [9, 12]), ([11, 13, 9], [9, 11, 13]), ([9, 14], [9, 14]), ([15, 13], [15]), ([16], [16]), ([17, 16, 16], [16, 17]), ([16], [16]), ([19, 18, 16], [16, 19]), ([18, 20, 16], [16, 18, 20]), ([16, 21], [16, 21]), ([22, 20], [22]), ([23], [23]), ([24, 23, 23], [23, 24]), ([23], [23]), ([26, 25, 23], [23, 26]), ([25, 27, 23], [23, 25, 27]), ([23, 28], [23, 28]), ([29, 27], [29]), ([30], [30]), ([31, 30, 30], [30, 31]), ([30], [30]), ([33, 32, 30], [30, 33]), ([32, 34, 30], [30, 32, 34]), ([30, 35], [30, 35]), ([36, 34], [36]), ([37], [37]), ([38, 37, 37], [37, 38]), ([37], [37]), ([40, 39, 37], [37, 40]), ([39, 41, 37], [37, 39, 41]), ([37, 42], [37, 42]), ([43, 41], [43]), ([44], [44]), ([45, 44, 44], [44, 45]), ([44], [44]), ([47, 46, 44], [44, 47]), ([46, 48, 48, 44], [44, 46, 48]), ([44, 49], [44, 49]), ([50, 49], [50]), ([51, 51], [51]), ([51, 52], [51, 52]), ([53, 52, 0, 1, 2, 3, 4, 5, 6, 7, 8, 9, 10, 11, 12, 13, 14, 15, 16, 17, 18, 19, 20, 21, 22, 23, 24, 25, 26, 27, 28, 29, 30, 31, 32, 33, 34, 35, 36, 37, 38, 39, 40, 41, 42, 43, 44, 45, 46, 47, 48, 49, 50, 51, 52, 53], [53])])
def lockkeeperlaw8_AskNorms.B6 : List Nat := [0, 1, 3, 7, 15, 31, 15, 127, 255, 511, 1023, 2047, 1023, 8191, 16383, 32767, 65535, 131071, 262143, 131071, 1048575, 2097151, 4194303, 8388607, 16777215, 33554431, 16777215, 134217727, 268435455, 536870911, 1073741823, 2147483647, 4294967295, 2147483647, 17179869183, 34359738367, 68719476735, 137438953471, 274877906943, 549755813887, 274877906943, 2199023255551, 4398046511103, 8796093022207, 17592186044415, 35184372088831, 70368744177663, 35184372088831, 281474976710655, 562949953421311, 1125899906842623, 2251799813685247, 4503599627370495, 9007199254740991, 18014398509481983]
theorem lockkeeperlaw8_AskNorms.tab6 : rtab .any (opsOf Tryz.f6 6) = lockkeeperlaw8_AskNorms.T6 := by kernel_rfl
theorem lockkeeperlaw8_AskNorms.bits6 : waitsOk lockkeeperlaw8_AskNorms.T6.2 lockkeeperlaw8_AskNorms.B6 = true := by kernel_rfl
set_option maxHeartbeats 8000000 in
set_option maxRecDepth 100000 in
theorem lockkeeperlaw8_AskNorms.calls (k : Nat) (a0_0 : ByteArray) (a0_1 : ByteArray) (a0_2 : ByteArray) (a0_3 : Int) (a0_4 : Bool) (A0_5 : Option Addr) (c0_5 : Nat) (l0_5 : List (S28)) (a0_6 : Int) (a0_7 : Int) (a0_8 : Int) (a0_9 : Int) (r : Bool) (w : World) (hr0_5 : Kd.C k28 w A0_5 l0_5.length l0_5) (hc0_5 : l0_5.length ≤ c0_5) (hM_ : Aside0 (LaidW w)) (hr_ : r = true) (h : lockkeeperlaw8_AskNorms.f k a0_0 a0_1 a0_2 a0_3 a0_4 l0_5 a0_6 a0_7 a0_8 a0_9 = some r) :
  Calls Tryz.prog 6 #[.agg #[.string a0_0, .string a0_1, .string a0_2, .int .i64 a0_3, .bool a0_4, .slice A0_5 l0_5.length c0_5, .int .i64 a0_6, .int .u64 a0_7, .int .i64 a0_8, .int .i64 a0_9]] w fun e w' => e = .returned (.bool r) ∧ Below w.heap.size w w' := by
 have hu26 := Tryz.underlying26
 have HR1_5 := Aside0.mk hr0_5
 have HC1_5 := Aside0.mk hc0_5
 clear hr0_5 hc0_5
 have HB := Aside0.mk (Below.refl w.heap.size w)
 have H : ((lockkeeperlaw0_GreatReq.f k a0_0 a0_1 a0_2 a0_3 a0_4 l0_5 a0_6 a0_7 a0_8 a0_9).bind fun t1 => (if t1 = true then ((lockkeeperlaw8_awake.f k).bind fun t2 => (some t2)) else ((ask_Norm.f k a0_0 a0_1 a0_2 a0_3 a0_4 l0_5 a0_6 a0_7 a0_8 a0_9).bind fun bt3 => ((ask_Check.f k a0_0 a0_1 a0_2 a0_3 a0_4 l0_5 a0_6 a0_7 a0_8 a0_9).bind fun t4 => (if t4 = 0 then ((ask_Check.f k bt3.1 bt3.2.1 bt3.2.2.1 bt3.2.2.2.1 bt3.2.2.2.2.1 bt3.2.2.2.2.2.1 bt3.2.2.2.2.2.2.1 bt3.2.2.2.2.2.2.2.1 bt3.2.2.2.2.2.2.2.2.1 bt3.2.2.2.2.2.2.2.2.2).bind fun t5 => (if t5 = 0 then ((ask_Norm.f k bt3.1 bt3.2.1 bt3.2.2.1 bt3.2.2.2.1 bt3.2.2.2.2.1 bt3.2.2.2.2.2.1 bt3.2.2.2.2.2.2.1 bt3.2.2.2.2.2.2.2.1 bt3.2.2.2.2.2.2.2.2.1 bt3.2.2.2.2.2.2.2.2.2).bind fun bt6 => ((lockkeeperlaw0_Req.f k bt6.1 bt6.2.1 bt6.2.2.1 bt6.2.2.2.1 bt6.2.2.2.2.1 bt6.2.2.2.2.2.1 bt6.2.2.2.2.2.2.1 bt6.2.2.2.2.2.2.2.1 bt6.2.2.2.2.2.2.2.2.1 bt6.2.2.2.2.2.2.2.2.2 bt3.1 bt3.2.1 bt3.2.2.1 bt3.2.2.2.1 bt3.2.2.2.2.1 bt3.2.2.2.2.2.1 bt3.2.2.2.2.2.2.1 bt3.2.2.2.2.2.2.2.1 bt3.2.2.2.2.2.2.2.2.1 bt3.2.2.2.2.2.2.2.2.2).bind fun t7 => (if t7 = true then ((ask_Cross.f k bt3.1 bt3.2.1 bt3.2.2.1 bt3.2.2.2.1 bt3.2.2.2.2.1 bt3.2.2.2.2.2.1 bt3.2.2.2.2.2.2.1 bt3.2.2.2.2.2.2.2.1 bt3.2.2.2.2.2.2.2.2.1 bt3.2.2.2.2.2.2.2.2.2).bind fun t8 => ((ask_Cross.f k a0_0 a0_1 a0_2 a0_3 a0_4 l0_5 a0_6 a0_7 a0_8 a0_9).bind fun t9 => (if (t8 == t9) = true then ((ask_Needs.f k bt3.1 bt3.2.1 bt3.2.2.1 bt3.2.2.2.1 bt3.2.2.2.2.1 bt3.2.2.2.2.2.1 bt3.2.2.2.2.2.2.1 bt3.2.2.2.2.2.2.2.1 bt3.2.2.2.2.2.2.2.2.1 bt3.2.2.2.2.2.2.2.2.2).bind fun t10 => ((ask_Needs.f k a0_0 a0_1 a0_2 a0_3 a0_4 l0_5 a0_6 a0_7 a0_8 a0_9).bind fun t11 => (if (t10 == t11) = true then ((ask_Key.f k bt3.1 bt3.2.1 bt3.2.2.1 bt3.2.2.2.1 bt3.2.2.2.2.1 bt3.2.2.2.2.2.1 bt3.2.2.2.2.2.2.1 bt3.2.2.2.2.2.2.2.1 bt3.2.2.2.2.2.2.2.2.1 bt3.2.2.2.2.2.2.2.2.2).bind fun t12 => ((ask_Key.f k a0_0 a0_1 a0_2 a0_3 a0_4 l0_5 a0_6 a0_7 a0_8 a0_9).bind fun t13 => (if t12.toList = t13.toList then ((ask_Cell.f k bt3.1 bt3.2.1 bt3.2.2.1 bt3.2.2.2.1 bt3.2.2.2.2.1 bt3.2.2.2.2.2.1 bt3.2.2.2.2.2.2.1 bt3.2.2.2.2.2.2.2.1 bt3.2.2.2.2.2.2.2.2.1 bt3.2.2.2.2.2.2.2.2.2).bind fun bt14 => ((ask_Cell.f k a0_0 a0_1 a0_2 a0_3 a0_4 l0_5 a0_6 a0_7 a0_8 a0_9).bind fun bt15 => (if (bt14.1.toList == bt15.1.toList && (bt14.2.1.toList == bt15.2.1.toList && (bt14.2.2 == bt15.2.2))) = true then ((ask_Want.f k bt3.1 bt3.2.1 bt3.2.2.1 bt3.2.2.2.1 bt3.2.2.2.2.1 bt3.2.2.2.2.2.1 bt3.2.2.2.2.2.2.1 bt3.2.2.2.2.2.2.2.1 bt3.2.2.2.2.2.2.2.2.1 bt3.2.2.2.2.2.2.2.2.2).bind fun bt16 => ((ask_Want.f k a0_0 a0_1 a0_2 a0_3 a0_4 l0_5 a0_6 a0_7 a0_8 a0_9).bind fun bt17 => (if ((bt16.1.toList == bt17.1.toList && (bt16.2.1.toList == bt17.2.1.toList && (bt16.2.2.1 == bt17.2.2.1))) && (bt16.2.2.2.1.toList == bt17.2.2.2.1.toList && (bt16.2.2.2.2.toList == bt17.2.2.2.2.toList))) = true then ((ask_Names.f k bt3.1 bt3.2.1 bt3.2.2.1 bt3.2.2.2.1 bt3.2.2.2.2.1 bt3.2.2.2.2.2.1 bt3.2.2.2.2.2.2.1 bt3.2.2.2.2.2.2.2.1 bt3.2.2.2.2.2.2.2.2.1 bt3.2.2.2.2.2.2.2.2.2).bind fun t18 => ((ask_Names.f k a0_0 a0_1 a0_2 a0_3 a0_4 l0_5 a0_6 a0_7 a0_8 a0_9).bind fun t19 => ((lockkeeperlaw0_Texts.f k t18 t19).bind fun t20 => (if t20 = true then ((lockkeeperlaw8_awake.f k).bind fun t21 => (some t21)) else (some false))))) else (some false)))) else (some false)))) else (some false)))) else (some false)))) else (some false)))) else (some false)))) else (some false))) else ((lockkeeperlaw0_Req.f k bt3.1 bt3.2.1 bt3.2.2.1 bt3.2.2.2.1 bt3.2.2.2.2.1 bt3.2.2.2.2.2.1 bt3.2.2.2.2.2.2.1 bt3.2.2.2.2.2.2.2.1 bt3.2.2.2.2.2.2.2.2.1 bt3.2.2.2.2.2.2.2.2.2 (⟨#[]⟩ : ByteArray) (⟨#[]⟩ : ByteArray) (⟨#[]⟩ : ByteArray) 0 false ([] : List (S28)) 0 0 0 0).bind fun t22 => (if t22 = true then ((ask_Needs.f k a0_0 a0_1 a0_2 a0_3 a0_4 l0_5 a0_6 a0_7 a0_8 a0_9).bind fun t23 => (if t23 = true then (some false) else ((ask_Key.f k a0_0 a0_1 a0_2 a0_3 a0_4 l0_5 a0_6 a0_7 a0_8 a0_9).bind fun t24 => (if t24.toList = ([] : List UInt8) then ((lockkeeperlaw8_awake.f k).bind fun t25 => (some t25)) else (some false))))) else (some false)))))))) = some r := h
 clear h
 replace H := bd_ H; obtain ⟨t1, A2, H⟩ := H
 refine em_ (t1 = true) (fun c3 => ?g1p) (fun c3 => ?g1n)
 case' g1p =>
  subst c3
  replace H := ifT_ H
  replace H := bd_ H; obtain ⟨t2, A4, H⟩ := H
  clear hr_
  obtain rfl := si_ H
  have M14_0 := trivial
 case' g1n =>
  replace c3 := Bool.eq_false_iff.mpr c3
  subst c3
  replace H := ifF_ H
  replace H := bd_ H; obtain ⟨⟨t3, t26, t27, t28, t29, t30, t31, t32, t33, t34⟩, A4, H⟩ := H
  replace H : ((ask_Check.f k a0_0 a0_1 a0_2 a0_3 a0_4 l0_5 a0_6 a0_7 a0_8 a0_9).bind fun t4 => (if t4 = 0 then ((ask_Check.f k t3 t26 t27 t28 t29 t30 t31 t32 t33 t34).bind fun t5 => (if t5 = 0 then ((ask_Norm.f k t3 t26 t27 t28 t29 t30 t31 t32 t33 t34).bind fun bt6 => ((lockkeeperlaw0_Req.f k bt6.1 bt6.2.1 bt6.2.2.1 bt6.2.2.2.1 bt6.2.2.2.2.1 bt6.2.2.2.2.2.1 bt6.2.2.2.2.2.2.1 bt6.2.2.2.2.2.2.2.1 bt6.2.2.2.2.2.2.2.2.1 bt6.2.2.2.2.2.2.2.2.2 t3 t26 t27 t28 t29 t30 t31 t32 t33 t34).bind fun t7 => (if t7 = true then ((ask_Cross.f k t3 t26 t27 t28 t29 t30 t31 t32 t33 t34).bind fun t8 => ((ask_Cross.f k a0_0 a0_1 a0_2 a0_3 a0_4 l0_5 a0_6 a0_7 a0_8 a0_9).bind fun t9 => (if (t8 == t9) = true then ((ask_Needs.f k t3 t26 t27 t28 t29 t30 t31 t32 t33 t34).bind fun t10 => ((ask_Needs.f k a0_0 a0_1 a0_2 a0_3 a0_4 l0_5 a0_6 a0_7 a0_8 a0_9).bind fun t11 => (if (t10 == t11) = true then ((ask_Key.f k t3 t26 t27 t28 t29 t30 t31 t32 t33 t34).bind fun t12 => ((ask_Key.f k a0_0 a0_1 a0_2 a0_3 a0_4 l0_5 a0_6 a0_7 a0_8 a0_9).bind fun t13 => (if t12.toList = t13.toList then ((ask_Cell.f k t3 t26 t27 t28 t29 t30 t31 t32 t33 t34).bind fun bt14 => ((ask_Cell.f k a0_0 a0_1 a0_2 a0_3 a0_4 l0_5 a0_6 a0_7 a0_8 a0_9).bind fun bt15 => (if (bt14.1.toList == bt15.1.toList && (bt14.2.1.toList == bt15.2.1.toList && (bt14.2.2 == bt15.2.2))) = true then ((ask_Want.f k t3 t26 t27 t28 t29 t30 t31 t32 t33 t34).bind fun bt16 => ((ask_Want.f k a0_0 a0_1 a0_2 a0_3 a0_4 l0_5 a0_6 a0_7 a0_8 a0_9).bind fun bt17 => (if ((bt16.1.toList == bt17.1.toList && (bt16.2.1.toList == bt17.2.1.toList && (bt16.2.2.1 == bt17.2.2.1))) && (bt16.2.2.2.1.toList == bt17.2.2.2.1.toList && (bt16.2.2.2.2.toList == bt17.2.2.2.2.toList))) = true then ((ask_Names.f k t3 t26 t27 t28 t29 t30 t31 t32 t33 t34).bind fun t18 => ((ask_Names.f k a0_0 a0_1 a0_2 a0_3 a0_4 l0_5 a0_6 a0_7 a0_8 a0_9).bind fun t19 => ((lockkeeperlaw0_Texts.f k t18 t19).bind fun t20 => (if t20 = true then ((lockkeeperlaw8_awake.f k).bind fun t21 => (some t21)) else (some false))))) else (some false)))) else (some false)))) else (some false)))) else (some false)))) else (some false)))) else (some false)))) else (some false))) else ((lockkeeperlaw0_Req.f k t3 t26 t27 t28 t29 t30 t31 t32 t33 t34 (⟨#[]⟩ : ByteArray) (⟨#[]⟩ : ByteArray) (⟨#[]⟩ : ByteArray) 0 false ([] : List (S28)) 0 0 0 0).bind fun t22 => (if t22 = true then ((ask_Needs.f k a0_0 a0_1 a0_2 a0_3 a0_4 l0_5 a0_6 a0_7 a0_8 a0_9).bind fun t23 => (if t23 = true then (some false) else ((ask_Key.f k a0_0 a0_1 a0_2 a0_3 a0_4 l0_5 a0_6 a0_7 a0_8 a0_9).bind fun t24 => (if t24.toList = ([] : List UInt8) then ((lockkeeperlaw8_awake.f k).bind fun t25 => (some t25)) else (some false))))) else (some false))))) = some r := H
  replace H := bd_ H; obtain ⟨t4, A5, H⟩ := H
  refine em_ (t4 = 0) (fun c6 => ?g2p) (fun c6 => ?g2n)
  case' g2p =>
   rw [if_pos c6] at H
   have c6b0 : (t4 == 0) = true := beq_iff_eq.mpr c6
   have c6b1 : (t4 != 0) = false := bne_eq_false_iff_eq.mpr c6
   clear c6
   replace H := bd_ H; obtain ⟨t5, A7, H⟩ := H
   refine em_ (t5 = 0) (fun c8 => ?g3p) (fun c8 => ?g3n)
   case' g3p =>
    rw [if_pos c8] at H
    have c8b0 : (t5 == 0) = true := beq_iff_eq.mpr c8
    have c8b1 : (t5 != 0) = false := bne_eq_false_iff_eq.mpr c8
    clear c8
    replace H := bd_ H; obtain ⟨⟨t6, t35, t36, t37, t38, t39, t40, t41, t42, t43⟩, A9, H⟩ := H
    replace H : ((lockkeeperlaw0_Req.f k t6 t35 t36 t37 t38 t39 t40 t41 t42 t43 t3 t26 t27 t28 t29 t30 t31 t32 t33 t34).bind fun t7 => (if t7 = true then ((ask_Cross.f k t3 t26 t27 t28 t29 t30 t31 t32 t33 t34).bind fun t8 => ((ask_Cross.f k a0_0 a0_1 a0_2 a0_3 a0_4 l0_5 a0_6 a0_7 a0_8 a0_9).bind fun t9 => (if (t8 == t9) = true then ((ask_Needs.f k t3 t26 t27 t28 t29 t30 t31 t32 t33 t34).bind fun t10 => ((ask_Needs.f k a0_0 a0_1 a0_2 a0_3 a0_4 l0_5 a0_6 a0_7 a0_8 a0_9).bind fun t11 => (if (t10 == t11) = true then ((ask_Key.f k t3 t26 t27 t28 t29 t30 t31 t32 t33 t34).bind fun t12 => ((ask_Key.f k a0_0 a0_1 a0_2 a0_3 a0_4 l0_5 a0_6 a0_7 a0_8 a0_9).bind fun t13 => (if t12.toList = t13.toList then ((ask_Cell.f k t3 t26 t27 t28 t29 t30 t31 t32 t33 t34).bind fun bt14 => ((ask_Cell.f k a0_0 a0_1 a0_2 a0_3 a0_4 l0_5 a0_6 a0_7 a0_8 a0_9).bind fun bt15 => (if (bt14.1.toList == bt15.1.toList && (bt14.2.1.toList == bt15.2.1.toList && (bt14.2.2 == bt15.2.2))) = true then ((ask_Want.f k t3 t26 t27 t28 t29 t30 t31 t32 t33 t34).bind fun bt16 => ((ask_Want.f k a0_0 a0_1 a0_2 a0_3 a0_4 l0_5 a0_6 a0_7 a0_8 a0_9).bind fun bt17 => (if ((bt16.1.toList == bt17.1.toList && (bt16.2.1.toList == bt17.2.1.toList && (bt16.2.2.1 == bt17.2.2.1))) && (bt16.2.2.2.1.toList == bt17.2.2.2.1.toList && (bt16.2.2.2.2.toList == bt17.2.2.2.2.toList))) = true then ((ask_Names.f k t3 t26 t27 t28 t29 t30 t31 t32 t33 t34).bind fun t18 => ((ask_Names.f k a0_0 a0_1 a0_2 a0_3 a0_4 l0_5 a0_6 a0_7 a0_8 a0_9).bind fun t19 => ((lockkeeperlaw0_Texts.f k t18 t19).bind fun t20 => (if t20 = true then ((lockkeeperlaw8_awake.f k).bind fun t21 => (some t21)) else (some false))))) else (some false)))) else (some false)))) else (some false)))) else (some false)))) else (some false)))) else (some false))) = some r := H
    replace H := bd_ H; obtain ⟨t7, A10, H⟩ := H
    refine em_ (t7 = true) (fun c11 => ?g4p) (fun c11 => ?g4n)
    case' g4p =>
     subst c11
     replace H := ifT_ H
     replace H := bd_ H; obtain ⟨t8, A12, H⟩ := H
     replace H := bd_ H; obtain ⟨t9, A13, H⟩ := H
     refine em_ ((t8 == t9) = true) (fun c14 => ?g5p) (fun c14 => ?g5n)
     case' g5p =>
      rw [if_pos c14] at H
      have c14b0 : (t8 == t9) = true := c14
      (try (have c14b1 : decide (t8 = t9) = true := by simpa using c14))
      (try (have c14b2 : (t8 == t9) = true := by simpa using c14))
      clear c14
      replace H := bd_ H; obtain ⟨t10, A15, H⟩ := H
      replace H := bd_ H; obtain ⟨t11, A16, H⟩ := H
      refine em_ ((t10 == t11) = true) (fun c17 => ?g6p) (fun c17 => ?g6n)
      case' g6p =>
       rw [if_pos c17] at H
       have c17b0 : (t10 == t11) = true := c17
       (try (have c17b1 : decide (t10 = t11) = true := by simpa using c17))
       (try (have c17b2 : (t10 == t11) = true := by simpa using c17))
       clear c17
       replace H := bd_ H; obtain ⟨t12, A18, H⟩ := H
       replace H := bd_ H; obtain ⟨t13, A19, H⟩ := H
       refine em_ (t12.toList = t13.toList) (fun c20 => ?g7p) (fun c20 => ?g7n)
       case' g7p =>
        rw [if_pos c20] at H
        have c20b0 : (t12.toList == t13.toList) = true := beq_iff_eq.mpr c20
        have c20b1 : (t12.toList != t13.toList) = false := bne_eq_false_iff_eq.mpr c20
        clear c20
        replace H := bd_ H; obtain ⟨⟨t14, t44, t45⟩, A21, H⟩ := H
        replace H : ((ask_Cell.f k a0_0 a0_1 a0_2 a0_3 a0_4 l0_5 a0_6 a0_7 a0_8 a0_9).bind fun bt15 => (if (t14.toList == bt15.1.toList && (t44.toList == bt15.2.1.toList && (t45 == bt15.2.2))) = true then ((ask_Want.f k t3 t26 t27 t28 t29 t30 t31 t32 t33 t34).bind fun bt16 => ((ask_Want.f k a0_0 a0_1 a0_2 a0_3 a0_4 l0_5 a0_6 a0_7 a0_8 a0_9).bind fun bt17 => (if ((bt16.1.toList == bt17.1.toList && (bt16.2.1.toList == bt17.2.1.toList && (bt16.2.2.1 == bt17.2.2.1))) && (bt16.2.2.2.1.toList == bt17.2.2.2.1.toList && (bt16.2.2.2.2.toList == bt17.2.2.2.2.toList))) = true then ((ask_Names.f k t3 t26 t27 t28 t29 t30 t31 t32 t33 t34).bind fun t18 => ((ask_Names.f k a0_0 a0_1 a0_2 a0_3 a0_4 l0_5 a0_6 a0_7 a0_8 a0_9).bind fun t19 => ((lockkeeperlaw0_Texts.f k t18 t19).bind fun t20 => (if t20 = true then ((lockkeeperlaw8_awake.f k).bind fun t21 => (some t21)) else (some false))))) else (some false)))) else (some false))) = some r := H
        replace H := bd_ H; obtain ⟨⟨t15, t46, t47⟩, A22, H⟩ := H
        replace H : (if (t14.toList == t15.toList && (t44.toList == t46.toList && (t45 == t47))) = true then ((ask_Want.f k t3 t26 t27 t28 t29 t30 t31 t32 t33 t34).bind fun bt16 => ((ask_Want.f k a0_0 a0_1 a0_2 a0_3 a0_4 l0_5 a0_6 a0_7 a0_8 a0_9).bind fun bt17 => (if ((bt16.1.toList == bt17.1.toList && (bt16.2.1.toList == bt17.2.1.toList && (bt16.2.2.1 == bt17.2.2.1))) && (bt16.2.2.2.1.toList == bt17.2.2.2.1.toList && (bt16.2.2.2.2.toList == bt17.2.2.2.2.toList))) = true then ((ask_Names.f k t3 t26 t27 t28 t29 t30 t31 t32 t33 t34).bind fun t18 => ((ask_Names.f k a0_0 a0_1 a0_2 a0_3 a0_4 l0_5 a0_6 a0_7 a0_8 a0_9).bind fun t19 => ((lockkeeperlaw0_Texts.f k t18 t19).bind fun t20 => (if t20 = true then ((lockkeeperlaw8_awake.f k).bind fun t21 => (some t21)) else (some false))))) else (some false)))) else (some false)) = some r := H
        refine em_ ((t14.toList == t15.toList && (t44.toList == t46.toList && (t45 == t47))) = true) (fun c23 => ?g8p) (fun c23 => ?g8n)
        case' g8p =>
         rw [if_pos c23] at H
         have c23b0 : (t14.toList == t15.toList && (t44.toList == t46.toList && (t45 == t47))) = true := c23
         (try (have c23b1 : decide (t14.toList = t15.toList && (t44.toList == t46.toList && (t45 == t47))) = true := by simpa using c23))
         (try (have c23b2 : (t14.toList == t15.toList && (t44.toList == t46.toList && (t45 == t47))) = true := by simpa using c23))
         clear c23
         replace H := bd_ H; obtain ⟨⟨t16, t48, t49, t50, t51⟩, A24, H⟩ := H
         replace H : ((ask_Want.f k a0_0 a0_1 a0_2 a0_3 a0_4 l0_5 a0_6 a0_7 a0_8 a0_9).bind fun bt17 => (if ((t16.toList == bt17.1.toList && (t48.toList == bt17.2.1.toList && (t49 == bt17.2.2.1))) && (t50.toList == bt17.2.2.2.1.toList && (t51.toList == bt17.2.2.2.2.toList))) = true then ((ask_Names.f k t3 t26 t27 t28 t29 t30 t31 t32 t33 t34).bind fun t18 => ((ask_Names.f k a0_0 a0_1 a0_2 a0_3 a0_4 l0_5 a0_6 a0_7 a0_8 a0_9).bind fun t19 => ((lockkeeperlaw0_Texts.f k t18 t19).bind fun t20 => (if t20 = true then ((lockkeeperlaw8_awake.f k).bind fun t21 => (some t21)) else (some false))))) else (some false))) = some r := H
         replace H := bd_ H; obtain ⟨⟨t17, t52, t53, t54, t55⟩, A25, H⟩ := H
         replace H : (if ((t16.toList == t17.toList && (t48.toList == t52.toList && (t49 == t53))) && (t50.toList == t54.toList && (t51.toList == t55.toList))) = true then ((ask_Names.f k t3 t26 t27 t28 t29 t30 t31 t32 t33 t34).bind fun t18 => ((ask_Names.f k a0_0 a0_1 a0_2 a0_3 a0_4 l0_5 a0_6 a0_7 a0_8 a0_9).bind fun t19 => ((lockkeeperlaw0_Texts.f k t18 t19).bind fun t20 => (if t20 = true then ((lockkeeperlaw8_awake.f k).bind fun t21 => (some t21)) else (some false))))) else (some false)) = some r := H
         refine em_ (((t16.toList == t17.toList && (t48.toList == t52.toList && (t49 == t53))) && (t50.toList == t54.toList && (t51.toList == t55.toList))) = true) (fun c26 => ?g9p) (fun c26 => ?g9n)
         case' g9p =>
          rw [if_pos c26] at H
          have c26b0 : ((t16.toList == t17.toList && (t48.toList == t52.toList && (t49 == t53))) && (t50.toList == t54.toList && (t51.toList == t55.toList))) = true := c26
          clear c26
          replace H := bd_ H; obtain ⟨t18, A27, H⟩ := H
          replace H := bd_ H; obtain ⟨t19, A28, H⟩ := H
          replace H := bd_ H; obtain ⟨t20, A29, H⟩ := H
          refine em_ (t20 = true) (fun c30 => ?g10p) (fun c30 => ?g10n)
          case' g10p =>
           subst c30
           replace H := ifT_ H
           replace H := bd_ H; obtain ⟨t21, A31, H⟩ := H
           clear hr_
           obtain rfl := si_ H
           have M14_1 := trivial
          case g10n =>
           replace c30 := Bool.eq_false_iff.mpr c30
           subst c30
           replace H := ifF_ H
           exact absurd ((Option.some.inj H).trans hr_) (by decide)
         case g9n =>
          rw [if_neg c26] at H
          have c26b0 : ((t16.toList == t17.toList && (t48.toList == t52.toList && (t49 == t53))) && (t50.toList == t54.toList && (t51.toList == t55.toList))) = false := by simpa using c26
          clear c26
          exact absurd ((Option.some.inj H).trans hr_) (by decide)
        case g8n =>
         rw [if_neg c23] at H
         have c23b0 : (t14.toList == t15.toList && (t44.toList == t46.toList && (t45 == t47))) = false := by simpa using c23
         (try (have c23b1 : decide (t14.toList = t15.toList && (t44.toList == t46.toList && (t45 == t47))) = false := by simpa using c23))
         (try (have c23b2 : (t14.toList == t15.toList && (t44.toList == t46.toList && (t45 == t47))) = false := by simpa using c23))
         (try (have c23b3 : ¬ (t14.toList = t15.toList && (t44.toList == t46.toList && (t45 == t47))) := by simpa using c23))
         clear c23
         exact absurd ((Option.some.inj H).trans hr_) (by decide)
       case g7n =>
        rw [if_neg c20] at H
        have c20b0 : (t12.toList == t13.toList) = false := beq_eq_false_iff_ne.mpr c20
        have c20b1 : (t12.toList != t13.toList) = true := bne_iff_ne.mpr c20
        exact absurd ((Option.some.inj H).trans hr_) (by decide)
      case g6n =>
       rw [if_neg c17] at H
       have c17b0 : (t10 == t11) = false := by simpa using c17
       (try (have c17b1 : decide (t10 = t11) = false := by simpa using c17))
       (try (have c17b2 : (t10 == t11) = false := by simpa using c17))
       (try (have c17b3 : ¬ (t10 = t11) := by simpa using c17))
       clear c17
       exact absurd ((Option.some.inj H).trans hr_) (by decide)
     case g5n =>
      rw [if_neg c14] at H
      have c14b0 : (t8 == t9) = false := by simpa using c14
      (try (have c14b1 : decide (t8 = t9) = false := by simpa using c14))
      (try (have c14b2 : (t8 == t9) = false := by simpa using c14))
      (try (have c14b3 : ¬ (t8 = t9) := by simpa using c14))
      clear c14
      exact absurd ((Option.some.inj H).trans hr_) (by decide)
    case g4n =>
     replace c11 := Bool.eq_false_iff.mpr c11
     subst c11
     replace H := ifF_ H
     exact absurd ((Option.some.inj H).trans hr_) (by decide)
   case g3n =>
    rw [if_neg c8] at H
    have c8b0 : (t5 == 0) = false := beq_eq_false_iff_ne.mpr c8
    have c8b1 : (t5 != 0) = true := bne_iff_ne.mpr c8
    exact absurd ((Option.some.inj H).trans hr_) (by decide)
  case' g2n =>
   rw [if_neg c6] at H
   have c6b0 : (t4 == 0) = false := beq_eq_false_iff_ne.mpr c6
   have c6b1 : (t4 != 0) = true := bne_iff_ne.mpr c6
   replace H := bd_ H; obtain ⟨t22, A7, H⟩ := H
   refine em_ (t22 = true) (fun c8 => ?g11p) (fun c8 => ?g11n)
   case' g11p =>
    subst c8
    replace H := ifT_ H
    replace H := bd_ H; obtain ⟨t23, A9, H⟩ := H
    refine em_ (t23 = true) (fun c10 => ?g12p) (fun c10 => ?g12n)
    case g12p =>
     subst c10
     replace H := ifT_ H
     exact absurd ((Option.some.inj H).trans hr_) (by decide)
    case' g12n =>
     replace c10 := Bool.eq_false_iff.mpr c10
     subst c10
     replace H := ifF_ H
     replace H := bd_ H; obtain ⟨t24, A11, H⟩ := H
     refine em_ (t24.toList = ([] : List UInt8)) (fun c12 => ?g13p) (fun c12 => ?g13n)
     case' g13p =>
      rw [if_pos c12] at H
      have c12b0 : (t24.toList == ([] : List UInt8)) = true := beq_iff_eq.mpr c12
      have c12b1 : (t24.toList != ([] : List UInt8)) = false := bne_eq_false_iff_eq.mpr c12
      clear c12
      replace H := bd_ H; obtain ⟨t25, A13, H⟩ := H
      clear hr_
      obtain rfl := si_ H
      have M14_0 := trivial
     case g13n =>
      rw [if_neg c12] at H
      have c12b0 : (t24.toList == ([] : List UInt8)) = false := beq_eq_false_iff_ne.mpr c12
      have c12b1 : (t24.toList != ([] : List UInt8)) = true := bne_iff_ne.mpr c12
      exact absurd ((Option.some.inj H).trans hr_) (by decide)
   case g11n =>
    replace c8 := Bool.eq_false_iff.mpr c8
    subst c8
    replace H := ifF_ H
    exact absurd ((Option.some.inj H).trans hr_) (by decide)
 all_goals
  go_enter Tryz.func6, Tryz.ntmps6
  try go_wp2_with (first | ((with_reducible refine gate_dst (N := 1) rfl ?_); refine bxE (N := 1) (cs := #[.string a0_0, .string a0_1, .string a0_2, .int .i64 a0_3, .bool a0_4, .slice A0_5 l0_5.length c0_5, .int .i64 a0_6, .int .u64 a0_7, .int .i64 a0_8, .int .i64 a0_9]) (t := 26) fun gb1a1 hg w1a2 hbox hb => ?_; obtain ⟨HB', BK1a1, GW1a1⟩ := bx_ bE hg hbox hb; have GE1a1 := GW1a1; clear HB hb hbox hg; have HB := HB'; clear HB'; obtain ⟨z1a3_0, z1a3_1, z1a3_2, z1a3_3, z1a3_4, z1a3_5, z1a3_6, z1a3_7, z1a3_8, z1a3_9, zf1a3_0, zf1a3_1, zf1a3_2, zf1a3_3, zf1a3_4, zf1a3_5, zf1a3_6, zf1a3_7, zf1a3_8, zf1a3_9⟩ := bk10_ BK1a1) | ((with_reducible refine gate_callee (f := 17) rfl ?_); refine gL (some 5) Tryz.func17 #[.agg #[.string a0_0, .string a0_1, .string a0_2, .int .i64 a0_3, .bool a0_4, .slice A0_5 l0_5.length c0_5, .int .i64 a0_6, .int .u64 a0_7, .int .i64 a0_8, .int .i64 a0_9]] ?_; (with_reducible refine (lockkeeperlaw0_GreatReq.calls k a0_0 a0_1 a0_2 a0_3 a0_4 _ _ l0_5 a0_6 a0_7 a0_8 a0_9 true _ ?side1 ?side2 A2.out).mono ?_); (case side1 => repeat (first | exact (Kd.C_below HR1_5.out HB.out) | (with_reducible refine Kd.C_alloc ?_ _) | (with_reducible refine Kd.C_drewN ?_ _) | (with_reducible refine Kd.C_drew ?_))); (case side2 => exact HC1_5.out); rintro e w2a1 ⟨rfl, hb⟩; refine ⟨_, rfl, ?_⟩; replace BK1a1 := kM BK1a1 hb; replace HB := bS bE hb; (try clear hb)) | ((with_reducible refine gate_callee (f := 15) rfl ?_); refine gL (some 6) Tryz.func15 #[] ?_; (with_reducible refine (lockkeeperlaw8_awake.calls k  _ _ ?side1 A4.out).mono ?_); (case side1 => exact ⟨lE⟩); rintro e w3a1 ⟨rfl, hb⟩; refine ⟨_, rfl, ?_⟩; replace BK1a1 := kM BK1a1 hb; replace HB := bS bE hb; (try clear hb)) | ((with_reducible refine gate_callee (f := 17) rfl ?_); refine gL (some 5) Tryz.func17 #[.agg #[.string a0_0, .string a0_1, .string a0_2, .int .i64 a0_3, .bool a0_4, .slice A0_5 l0_5.length c0_5, .int .i64 a0_6, .int .u64 a0_7, .int .i64 a0_8, .int .i64 a0_9]] ?_; (with_reducible refine (lockkeeperlaw0_GreatReq.calls k a0_0 a0_1 a0_2 a0_3 a0_4 _ _ l0_5 a0_6 a0_7 a0_8 a0_9 false _ ?side1 ?side2 A2.out).mono ?_); (case side1 => repeat (first | exact (Kd.C_below HR1_5.out HB.out) | (with_reducible refine Kd.C_alloc ?_ _) | (with_reducible refine Kd.C_drewN ?_ _) | (with_reducible refine Kd.C_drew ?_))); (case side2 => exact HC1_5.out); rintro e w4a1 ⟨rfl, hb⟩; refine ⟨_, rfl, ?_⟩; replace BK1a1 := kM BK1a1 hb; replace HB := bS bE hb; (try clear hb); obtain ⟨z4a2_0, z4a2_1, z4a2_2, z4a2_3, z4a2_4, z4a2_5, z4a2_6, z4a2_7, z4a2_8, z4a2_9, zf4a2_0, zf4a2_1, zf4a2_2, zf4a2_3, zf4a2_4, zf4a2_5, zf4a2_6, zf4a2_7, zf4a2_8, zf4a2_9⟩ := bk10_ BK1a1) | ((with_reducible refine gate_callee (f := 20) rfl ?_); refine gL (some 8) Tryz.func20 #[.agg #[.string a0_0, .string a0_1, .string a0_2, .int .i64 a0_3, .bool a0_4, .slice A0_5 l0_5.length c0_5, .int .i64 a0_6, .int .u64 a0_7, .int .i64 a0_8, .int .i64 a0_9]] ?_; (with_reducible refine (ask_Norm.calls k a0_0 a0_1 a0_2 a0_3 a0_4 _ _ l0_5 a0_6 a0_7 a0_8 a0_9 t3 t26 t27 t28 t29 t30 t31 t32 t33 t34 _ ?side1 ?side2 ?side3 A4.out).mono ?_); (case side1 => repeat (first | exact (Kd.C_below HR1_5.out HB.out) | (with_reducible refine Kd.C_alloc ?_ _) | (with_reducible refine Kd.C_drewN ?_ _) | (with_reducible refine Kd.C_drew ?_))); (case side2 => exact HC1_5.out); (case side3 => exact ⟨lE⟩); rintro e w5a1 ⟨v5a2, rfl, ho5a3, hb⟩; refine ⟨_, rfl, ?_⟩; have n0_ := Aside0.mk (Kd.R_lower ho5a3 (below_size bE)); have n1_ := kM BK1a1 hb; have n2_ := bS bE hb; clear BK1a1; clear HB; have HO5a4 := n0_; have BK1a1 := n1_; have HB := n2_; clear n0_ n1_ n2_; (try clear hb); (try clear hb2); (try clear hk); (try clear hi); (try clear ho5a3)) | ((with_reducible refine gate_dst (N := 3) rfl ?_); refine bxE (N := 3) (cs := #[.string (⟨#[]⟩ : ByteArray), .string (⟨#[]⟩ : ByteArray), .string (⟨#[]⟩ : ByteArray), .int .i64 0, .bool false, .slice none 0 0, .int .i64 0, .int .u64 0, .int .i64 0, .int .i64 0]) (t := 26) fun gb6a1 hg w6a2 hbox hb => ?_; have BK6a1 := Aside0.mk (hbox); have GW6a1 := sE (w := w) hg; have GE6a1 := sE (w := w) hg; have NB1a1_6a1 := neL BK1a1 hg; have NB6a1_1a1 := neG BK1a1 hg; replace HO5a4 := rM HO5a4 hb; replace BK1a1 := kM BK1a1 hb; replace HB := bS bE hb; clear hb hbox hg; have hnb6a3 := NB6a1_1a1.out; have hnc6a3 := NB1a1_6a1.out; obtain ⟨z6a4_0, z6a4_1, z6a4_2, z6a4_3, z6a4_4, z6a4_5, z6a4_6, z6a4_7, z6a4_8, z6a4_9, zf6a4_0, zf6a4_1, zf6a4_2, zf6a4_3, zf6a4_4, zf6a4_5, zf6a4_6, zf6a4_7, zf6a4_8, zf6a4_9⟩ := bk10_ BK6a1; obtain ⟨Ao6a5, co6a5, eo6a5⟩ := Kd.R_slice HO5a4.out; subst eo6a5; obtain ⟨z6a6_0, z6a6_1, z6a6_2, z6a6_3, z6a6_4, z6a6_5, z6a6_6, z6a6_7, z6a6_8, z6a6_9, zf6a6_0, zf6a6_1, zf6a6_2, zf6a6_3, zf6a6_4, zf6a6_5, zf6a6_6, zf6a6_7, zf6a6_8, zf6a6_9⟩ := bk10_ BK1a1) | ((with_reducible refine gate_callee (f := 13) rfl ?_); refine gL (some 10) Tryz.func13 #[.agg #[.string a0_0, .string a0_1, .string a0_2, .int .i64 a0_3, .bool a0_4, .slice A0_5 l0_5.length c0_5, .int .i64 a0_6, .int .u64 a0_7, .int .i64 a0_8, .int .i64 a0_9]] ?_; (with_reducible refine (ask_Check.calls k a0_0 a0_1 a0_2 a0_3 a0_4 _ _ l0_5 a0_6 a0_7 a0_8 a0_9 t4 _ ?side1 ?side2 ?side3 A5.out).mono ?_); (case side1 => exact Kd.C_below HR1_5.out bE); (case side2 => exact HC1_5.out); (case side3 => exact ⟨lE⟩); rintro e w7a1 ⟨rfl, hb⟩; refine ⟨_, rfl, ?_⟩; have n0_ := Aside0.mk (Kd.R_below (by (with_reducible repeat (first | apply Kd.R_alloc | apply Kd.R_drewN | apply Kd.R_drew)); exact (Kd.R_mono (Kd.R_far (p := ⟨gb6a1, 9, none⟩) (Kd.R_far (p := ⟨gb6a1, 8, none⟩) (Kd.R_far (p := ⟨gb6a1, 7, none⟩) (Kd.R_far (p := ⟨gb6a1, 6, none⟩) (Kd.R_far (p := ⟨gb6a1, 5, none⟩) (Kd.R_far (p := ⟨gb6a1, 4, none⟩) (Kd.R_far (p := ⟨gb6a1, 3, none⟩) (Kd.R_far (p := ⟨gb6a1, 2, none⟩) (Kd.R_far (p := ⟨gb6a1, 1, none⟩) (Kd.R_far (p := ⟨gb6a1, 0, none⟩) (Kd.R_types HO5a4.out BK6a1.out (by decide)) (fun _ hk => hk.2) (.string t3)) (fun _ hk => hk.2) (.string t26)) (fun _ hk => hk.2) (.string t27)) (fun _ hk => hk.2) (.int .i64 t28)) (fun _ hk => hk.2) (.bool t29)) (fun _ hk => hk.2) (.slice Ao6a5 t30.length co6a5)) (fun _ hk => hk.2) (.int .i64 t31)) (fun _ hk => hk.2) (.int .u64 t32)) (fun _ hk => hk.2) (.int .i64 t33)) (fun _ hk => hk.2) (.int .i64 t34)) (fun _ h_ => h_.1))) hb); have n1_ := kF BK1a1 hb; have n2_ := Aside0.mk (blk_below (g := gb6a1) (o := .cells #[.string t3, .string t26, .string t27, .int .i64 t28, .bool t29, .slice Ao6a5 t30.length co6a5, .int .i64 t31, .int .u64 t32, .int .i64 t33, .int .i64 t34] 26 (0, 0)) (kT) hb); have n3_ := bS bE hb; clear HO5a4; clear BK1a1; clear BK6a1; clear HB; have HO5a4 := n0_; have BK1a1 := n1_; have BK6a1 := n2_; have HB := n3_; clear n0_ n1_ n2_ n3_; (try clear hb); (try clear hb2); (try clear hk); (try clear hi); obtain ⟨z7a2_0, z7a2_1, z7a2_2, z7a2_3, z7a2_4, z7a2_5, z7a2_6, z7a2_7, z7a2_8, z7a2_9, zf7a2_0, zf7a2_1, zf7a2_2, zf7a2_3, zf7a2_4, zf7a2_5, zf7a2_6, zf7a2_7, zf7a2_8, zf7a2_9⟩ := bk10_ BK6a1) | ((with_reducible refine gate_callee (f := 19) rfl ?_); refine gL (some 14) Tryz.func19 #[.agg #[.string t3, .string t26, .string t27, .int .i64 t28, .bool t29, .slice Ao6a5 t30.length co6a5, .int .i64 t31, .int .u64 t32, .int .i64 t33, .int .i64 t34], .agg #[.string (⟨#[]⟩ : ByteArray), .string (⟨#[]⟩ : ByteArray), .string (⟨#[]⟩ : ByteArray), .int .i64 0, .bool false, .slice none 0 0, .int .i64 0, .int .u64 0, .int .i64 0, .int .i64 0]] ?_; (refine (lockkeeperlaw0_Req.calls k t3 t26 t27 t28 t29 _ _ t30 t31 t32 t33 t34 (⟨#[]⟩ : ByteArray) (⟨#[]⟩ : ByteArray) (⟨#[]⟩ : ByteArray) 0 false _ _ ([] : List (S28)) 0 0 0 0 true _ ?side1 ?side2 ?side3 ?side4 A7.out).mono ?_); (case side1 => repeat (first | exact (Kd.R_reads' HO5a4.out).2.2 | (with_reducible refine Kd.C_alloc ?_ _) | (with_reducible refine Kd.C_drewN ?_ _) | (with_reducible refine Kd.C_drew ?_))); (case side2 => exact (Kd.R_reads' HO5a4.out).2.1); (case side3 => exact Kd.C_nil _ _); (case side4 => exact Nat.le_refl _); rintro e w8a1 ⟨rfl, hb⟩; refine ⟨_, rfl, ?_⟩; replace HO5a4 := rM HO5a4 hb; replace BK1a1 := kM BK1a1 hb; replace BK6a1 := kM BK6a1 hb; replace HB := bS bE hb; (try clear hb); obtain ⟨z8a2_0, z8a2_1, z8a2_2, z8a2_3, z8a2_4, z8a2_5, z8a2_6, z8a2_7, z8a2_8, z8a2_9, zf8a2_0, zf8a2_1, zf8a2_2, zf8a2_3, zf8a2_4, zf8a2_5, zf8a2_6, zf8a2_7, zf8a2_8, zf8a2_9⟩ := bk10_ BK1a1) | (go_at_call 14; (with_reducible refine (ask_Needs.calls k a0_0 a0_1 a0_2 a0_3 a0_4 _ _ l0_5 a0_6 a0_7 a0_8 a0_9 false _ ?side1 ?side2 ?side3 A9.out).mono ?_); (case side1 => repeat (first | exact (Kd.C_below HR1_5.out HB.out) | (with_reducible refine Kd.C_alloc ?_ _) | (with_reducible refine Kd.C_drewN ?_ _) | (with_reducible refine Kd.C_drew ?_))); (case side2 => exact HC1_5.out); (case side3 => exact ⟨lE⟩); rintro e w9a1 ⟨rfl, hb⟩; replace HO5a4 := rM HO5a4 hb; replace BK1a1 := kM BK1a1 hb; replace BK6a1 := kM BK6a1 hb; replace HB := bS bE hb; (try clear hb); obtain ⟨z9a2_0, z9a2_1, z9a2_2, z9a2_3, z9a2_4, z9a2_5, z9a2_6, z9a2_7, z9a2_8, z9a2_9, zf9a2_0, zf9a2_1, zf9a2_2, zf9a2_3, zf9a2_4, zf9a2_5, zf9a2_6, zf9a2_7, zf9a2_8, zf9a2_9⟩ := bk10_ BK1a1) | (go_at_call 27; (with_reducible refine (ask_Key.calls k a0_0 a0_1 a0_2 a0_3 a0_4 _ _ l0_5 a0_6 a0_7 a0_8 a0_9 t24 _ ?side1 ?side2 ?side3 A11.out).mono ?_); (case side1 => repeat (first | exact (Kd.C_below HR1_5.out HB.out) | (with_reducible refine Kd.C_alloc ?_ _) | (with_reducible refine Kd.C_drewN ?_ _) | (with_reducible refine Kd.C_drew ?_))); (case side2 => exact HC1_5.out); (case side3 => exact ⟨lE⟩); rintro e w10a1 ⟨rfl, hb⟩; replace HO5a4 := rM HO5a4 hb; replace BK1a1 := kM BK1a1 hb; replace BK6a1 := kM BK6a1 hb; replace HB := bS bE hb; (try clear hb)) | (go_at_call 15; (with_reducible refine (lockkeeperlaw8_awake.calls k  _ _ ?side1 A13.out).mono ?_); (case side1 => exact ⟨lE⟩); rintro e w11a1 ⟨rfl, hb⟩; replace HO5a4 := rM HO5a4 hb; replace BK1a1 := kM BK1a1 hb; replace BK6a1 := kM BK6a1 hb; replace HB := bS bE hb; (try clear hb)))
  first
  | clear M14_0
    go_ret
    exact ⟨rE, bE⟩
  | clear M14_1
    have n0_ := Aside0.mk (Kd.R_drew HO5a4.out)
    have n1_ := Aside0.mk (blk_drew BK1a1.out)
    have n2_ := Aside0.mk (blk_drew BK6a1.out)
    have n3_ := Aside0.mk (below_drew1 HB.out)
    clear HO5a4
    clear BK1a1
    clear BK6a1
    clear HB
    have HO5a4 := n0_
    have BK1a1 := n1_
    have BK6a1 := n2_
    have HB := n3_
    clear n0_ n1_ n2_ n3_
    refine start_ (n := 55) (S := fun w' => w'.cell? ⟨gb6a1, 0, none⟩ = some (.string t3) ∧ w'.cell? ⟨gb6a1, 1, none⟩ = some (.string t26) ∧ w'.cell? ⟨gb6a1, 2, none⟩ = some (.string t27) ∧ w'.cell? ⟨gb6a1, 3, none⟩ = some (.int .i64 t28) ∧ w'.cell? ⟨gb6a1, 4, none⟩ = some (.bool t29) ∧ w'.cell? ⟨gb6a1, 5, none⟩ = some (.slice Ao6a5 t30.length co6a5) ∧ w'.cell? ⟨gb6a1, 6, none⟩ = some (.int .i64 t31) ∧ w'.cell? ⟨gb6a1, 7, none⟩ = some (.int .u64 t32) ∧ w'.cell? ⟨gb6a1, 8, none⟩ = some (.int .i64 t33) ∧ w'.cell? ⟨gb6a1, 9, none⟩ = some (.int .i64 t34) ∧ w'.cell? ⟨gb1a1, 0, none⟩ = some (.string a0_0) ∧ w'.cell? ⟨gb1a1, 1, none⟩ = some (.string a0_1) ∧ w'.cell? ⟨gb1a1, 2, none⟩ = some (.string a0_2) ∧ w'.cell? ⟨gb1a1, 3, none⟩ = some (.int .i64 a0_3) ∧ w'.cell? ⟨gb1a1, 4, none⟩ = some (.bool a0_4) ∧ w'.cell? ⟨gb1a1, 5, none⟩ = some (.slice A0_5 l0_5.length c0_5) ∧ w'.cell? ⟨gb1a1, 6, none⟩ = some (.int .i64 a0_6) ∧ w'.cell? ⟨gb1a1, 7, none⟩ = some (.int .u64 a0_7) ∧ w'.cell? ⟨gb1a1, 8, none⟩ = some (.int .i64 a0_8) ∧ w'.cell? ⟨gb1a1, 9, none⟩ = some (.int .i64 a0_9)) (ds := []) (bz 55 0) (by kernel_rfl) rfl rfl (bkd10_ BK6a1 (bkc10_ BK1a1)) (fun hHeld => ?_); refine with_tabW lockkeeperlaw8_AskNorms.tab6 lockkeeperlaw8_AskNorms.bits6 (fun HT_ HW_ => ?_)
    generalize w7a1.drew = w17s1 at HO5a4 BK1a1 BK6a1 HB hHeld ⊢
    refine tA20 (i := 0) (N := some 28) (bz 55 1) (take_ofW HT_.out HW_.out (by kernel_rfl)) hHeld ?_
    refine one_ (i := 1) (N := some 29) (bz 55 3) rfl rfl (one_of HT_.out (by kernel_rfl)) (by decide) (fun K hK => ?_)
    refine gS Tryz.func13 #[.agg #[.string t3, .string t26, .string t27, .int .i64 t28, .bool t29, .slice Ao6a5 t30.length co6a5, .int .i64 t31, .int .u64 t32, .int .i64 t33, .int .i64 t34]] ?_
    with_reducible refine (ask_Check.calls k t3 t26 t27 t28 t29 _ _ t30 t31 t32 t33 t34 t5 _ ?side1 ?side2 ?side3 A7.out).mono ?_
    (case side1 => repeat (first | exact (Kd.R_reads' HO5a4.out).2.2 | (with_reducible refine Kd.C_alloc ?_ _) | (with_reducible refine Kd.C_drewN ?_ _) | (with_reducible refine Kd.C_drew ?_)))
    (case side2 => exact (Kd.R_reads' HO5a4.out).2.1)
    (case side3 => exact ⟨lE⟩)
    rintro e w25s1 ⟨rfl, hb⟩
    refine ⟨_, rfl, ?_⟩
    replace HO5a4 := rM HO5a4 hb; replace BK1a1 := kM BK1a1 hb; replace BK6a1 := kM BK6a1 hb; replace HB := bS bE hb; (try clear hb)
    refine hK.out _ _ (bkd10_ BK6a1 (bkc10_ BK1a1)) (fun hHeld => ?_)
    clear hK K
    refine nA 29 ?_
    refine pA (i := 2) (N := some 30) (bz 55 7) (any_of HT_.out (by kernel_rfl)) ?_
    refine pA (i := 3) (N := some 31) (bz 55 15) (any_of HT_.out (by kernel_rfl)) ?_
    refine tA20 (i := 4) (N := some 32) (bz 55 31) (take_ofW HT_.out HW_.out (by kernel_rfl)) hHeld ?_
    refine tA20 (i := 6) (N := some 34) (bz 55 95) (take_ofW HT_.out HW_.out (by kernel_rfl)) hHeld ?_
    refine one_ (i := 5) (N := some 33) (bz 55 127) rfl rfl (one_of HT_.out (by kernel_rfl)) (by decide) (fun K hK => ?_)
    refine gS Tryz.func20 #[.agg #[.string t3, .string t26, .string t27, .int .i64 t28, .bool t29, .slice Ao6a5 t30.length co6a5, .int .i64 t31, .int .u64 t32, .int .i64 t33, .int .i64 t34]] ?_
    with_reducible refine (ask_Norm.calls k t3 t26 t27 t28 t29 _ _ t30 t31 t32 t33 t34 t6 t35 t36 t37 t38 t39 t40 t41 t42 t43 _ ?side1 ?side2 ?side3 A9.out).mono ?_
    (case side1 => repeat (first | exact (Kd.R_reads' HO5a4.out).2.2 | (with_reducible refine Kd.C_alloc ?_ _) | (with_reducible refine Kd.C_drewN ?_ _) | (with_reducible refine Kd.C_drew ?_)))
    (case side2 => exact (Kd.R_reads' HO5a4.out).2.1)
    (case side3 => exact ⟨lE⟩)
    rintro e w41s1 ⟨v41s2, rfl, ho5a3, hb⟩
    refine ⟨_, rfl, ?_⟩
    have n0_ := Aside0.mk (Kd.R_elder' (rK HO5a4.out) (Kd.R_base ho5a3) hb)
    have n1_ := Aside0.mk (Kd.R_lower (Kd.R_new' ho5a3 (Kd.R_lt (rK HO5a4.out))) (below_size bE))
    have n2_ := kM BK1a1 hb
    have n3_ := kM BK6a1 hb
    have n4_ := bS bE hb
    clear HO5a4
    clear BK1a1
    clear BK6a1
    clear HB
    have HO5a4 := n0_
    have HO53s1 := n1_
    have BK1a1 := n2_
    have BK6a1 := n3_
    have HB := n4_
    clear n0_ n1_ n2_ n3_ n4_
    (try clear hb)
    (try clear hb2)
    (try clear hk)
    (try clear hi)
    (try clear ho5a3)
    obtain ⟨Ao63s1, co63s1, eo63s1⟩ := Kd.R_slice HO53s1.out
    (first | subst eo63s1 | (injection eo63s1 with f1_ f2_ f3_; have f4_ := f1_.symm; have f5_ := f3_.symm; clear f1_ f2_ f3_; subst f4_; subst f5_))
    refine hK.out _ _ (bkd10_ BK6a1 (bkc10_ BK1a1)) (fun hHeld => ?_)
    clear hK K
    refine nA 33 ?_
    refine one_ (i := 7) (N := some 35) (bz 55 255) rfl rfl (one_of HT_.out (by kernel_rfl)) (by decide) (fun K hK => ?_)
    refine gS Tryz.func19 #[.agg #[.string t6, .string t35, .string t36, .int .i64 t37, .bool t38, .slice Ao63s1 t39.length co63s1, .int .i64 t40, .int .u64 t41, .int .i64 t42, .int .i64 t43], .agg #[.string t3, .string t26, .string t27, .int .i64 t28, .bool t29, .slice Ao6a5 t30.length co6a5, .int .i64 t31, .int .u64 t32, .int .i64 t33, .int .i64 t34]] ?_
    with_reducible refine (lockkeeperlaw0_Req.calls k t6 t35 t36 t37 t38 _ _ t39 t40 t41 t42 t43 t3 t26 t27 t28 t29 _ _ t30 t31 t32 t33 t34 true _ ?side1 ?side2 ?side3 ?side4 A10.out).mono ?_
    (case side1 => repeat (first | exact (Kd.R_reads' HO53s1.out).2.2 | (with_reducible refine Kd.C_alloc ?_ _) | (with_reducible refine Kd.C_drewN ?_ _) | (with_reducible refine Kd.C_drew ?_)))
    (case side2 => exact (Kd.R_reads' HO53s1.out).2.1)
    (case side3 => repeat (first | exact (Kd.R_reads' HO5a4.out).2.2 | (with_reducible refine Kd.C_alloc ?_ _) | (with_reducible refine Kd.C_drewN ?_ _) | (with_reducible refine Kd.C_drew ?_)))
    (case side4 => exact (Kd.R_reads' HO5a4.out).2.1)
    rintro e w75s1 ⟨rfl, hb⟩
    refine ⟨_, rfl, ?_⟩
    replace HO5a4 := rM HO5a4 hb; replace HO53s1 := rM HO53s1 hb; replace BK1a1 := kM BK1a1 hb; replace BK6a1 := kM BK6a1 hb; replace HB := bS bE hb; (try clear hb)
    refine hK.out _ _ (bkd10_ BK6a1 (bkc10_ BK1a1)) (fun hHeld => ?_)
    clear hK K
    refine nA 35 ?_
    refine pA (i := 8) (N := some 36) (bz 55 511) (any_of HT_.out (by kernel_rfl)) ?_
    refine pA (i := 9) (N := some 37) (bz 55 1023) (any_of HT_.out (by kernel_rfl)) ?_
    refine tA20 (i := 10) (N := some 38) (bz 55 2047) (take_ofW HT_.out HW_.out (by kernel_rfl)) hHeld ?_
    refine tA20 (i := 12) (N := some 40) (bz 55 6143) (take_ofW HT_.out HW_.out (by kernel_rfl)) hHeld ?_
    refine one_ (i := 11) (N := some 39) (bz 55 8191) rfl rfl (one_of HT_.out (by kernel_rfl)) (by decide) (fun K hK => ?_)
    refine gS Tryz.func16 #[.agg #[.string t3, .string t26, .string t27, .int .i64 t28, .bool t29, .slice Ao6a5 t30.length co6a5, .int .i64 t31, .int .u64 t32, .int .i64 t33, .int .i64 t34]] ?_
    with_reducible refine (ask_Cross.calls k t3 t26 t27 t28 t29 _ _ t30 t31 t32 t33 t34 t8 _ ?side1 ?side2 ?side3 A12.out).mono ?_
    (case side1 => repeat (first | exact (Kd.R_reads' HO5a4.out).2.2 | (with_reducible refine Kd.C_alloc ?_ _) | (with_reducible refine Kd.C_drewN ?_ _) | (with_reducible refine Kd.C_drew ?_)))
    (case side2 => exact (Kd.R_reads' HO5a4.out).2.1)
    (case side3 => exact ⟨lE⟩)
    rintro e w91s1 ⟨rfl, hb⟩
    refine ⟨_, rfl, ?_⟩
    replace HO5a4 := rM HO5a4 hb; replace HO53s1 := rM HO53s1 hb; replace BK1a1 := kM BK1a1 hb; replace BK6a1 := kM BK6a1 hb; replace HB := bS bE hb; (try clear hb)
    refine hK.out _ _ (bkd10_ BK6a1 (bkc10_ BK1a1)) (fun hHeld => ?_)
    clear hK K
    refine nA 39 ?_
    refine one_ (i := 13) (N := some 41) (bz 55 16383) rfl rfl (one_of HT_.out (by kernel_rfl)) (by decide) (fun K hK => ?_)
    refine gS Tryz.func16 #[.agg #[.string a0_0, .string a0_1, .string a0_2, .int .i64 a0_3, .bool a0_4, .slice A0_5 l0_5.length c0_5, .int .i64 a0_6, .int .u64 a0_7, .int .i64 a0_8, .int .i64 a0_9]] ?_
    with_reducible refine (ask_Cross.calls k a0_0 a0_1 a0_2 a0_3 a0_4 _ _ l0_5 a0_6 a0_7 a0_8 a0_9 t9 _ ?side1 ?side2 ?side3 A13.out).mono ?_
    (case side1 => repeat (first | exact (Kd.C_below HR1_5.out HB.out) | (with_reducible refine Kd.C_alloc ?_ _) | (with_reducible refine Kd.C_drewN ?_ _) | (with_reducible refine Kd.C_drew ?_)))
    (case side2 => exact HC1_5.out)
    (case side3 => exact ⟨lE⟩)
    rintro e w103s1 ⟨rfl, hb⟩
    refine ⟨_, rfl, ?_⟩
    replace HO5a4 := rM HO5a4 hb; replace HO53s1 := rM HO53s1 hb; replace BK1a1 := kM BK1a1 hb; replace BK6a1 := kM BK6a1 hb; replace HB := bS bE hb; (try clear hb)
    refine hK.out _ _ (bkd10_ BK6a1 (bkc10_ BK1a1)) (fun hHeld => ?_)
    clear hK K
    refine nA 41 ?_
    refine pA (i := 14) (N := some 42) (bz 55 32767) (any_of HT_.out (by kernel_rfl)) ?_
    refine pA (i := 15) (N := some 43) (bz 55 65535) (any_of HT_.out (by kernel_rfl)) ?_
    refine pA (i := 16) (N := some 44) (bz 55 131071) (any_of HT_.out (by kernel_rfl)) ?_
    refine tA20 (i := 17) (N := some 45) (bz 55 262143) (take_ofW HT_.out HW_.out (by kernel_rfl)) hHeld ?_
    refine tA20 (i := 19) (N := some 47) (bz 55 786431) (take_ofW HT_.out HW_.out (by kernel_rfl)) hHeld ?_
    refine one_ (i := 18) (N := some 46) (bz 55 1048575) rfl rfl (one_of HT_.out (by kernel_rfl)) (by decide) (fun K hK => ?_)
    refine gS Tryz.func14 #[.agg #[.string t3, .string t26, .string t27, .int .i64 t28, .bool t29, .slice Ao6a5 t30.length co6a5, .int .i64 t31, .int .u64 t32, .int .i64 t33, .int .i64 t34]] ?_
    with_reducible refine (ask_Needs.calls k t3 t26 t27 t28 t29 _ _ t30 t31 t32 t33 t34 t10 _ ?side1 ?side2 ?side3 A15.out).mono ?_
    (case side1 => repeat (first | exact (Kd.R_reads' HO5a4.out).2.2 | (with_reducible refine Kd.C_alloc ?_ _) | (with_reducible refine Kd.C_drewN ?_ _) | (with_reducible refine Kd.C_drew ?_)))
    (case side2 => exact (Kd.R_reads' HO5a4.out).2.1)
    (case side3 => exact ⟨lE⟩)
    rintro e w120s1 ⟨rfl, hb⟩
    refine ⟨_, rfl, ?_⟩
    replace HO5a4 := rM HO5a4 hb; replace HO53s1 := rM HO53s1 hb; replace BK1a1 := kM BK1a1 hb; replace BK6a1 := kM BK6a1 hb; replace HB := bS bE hb; (try clear hb)
    refine hK.out _ _ (bkd10_ BK6a1 (bkc10_ BK1a1)) (fun hHeld => ?_)
    clear hK K
    refine nA 46 ?_
    refine one_ (i := 20) (N := some 48) (bz 55 2097151) rfl rfl (one_of HT_.out (by kernel_rfl)) (by decide) (fun K hK => ?_)
    refine gS Tryz.func14 #[.agg #[.string a0_0, .string a0_1, .string a0_2, .int .i64 a0_3, .bool a0_4, .slice A0_5 l0_5.length c0_5, .int .i64 a0_6, .int .u64 a0_7, .int .i64 a0_8, .int .i64 a0_9]] ?_
    with_reducible refine (ask_Needs.calls k a0_0 a0_1 a0_2 a0_3 a0_4 _ _ l0_5 a0_6 a0_7 a0_8 a0_9 t11 _ ?side1 ?side2 ?side3 A16.out).mono ?_
    (case side1 => repeat (first | exact (Kd.C_below HR1_5.out HB.out) | (with_reducible refine Kd.C_alloc ?_ _) | (with_reducible refine Kd.C_drewN ?_ _) | (with_reducible refine Kd.C_drew ?_)))
    (case side2 => exact HC1_5.out)
    (case side3 => exact ⟨lE⟩)
    rintro e w132s1 ⟨rfl, hb⟩
    refine ⟨_, rfl, ?_⟩
    replace HO5a4 := rM HO5a4 hb; replace HO53s1 := rM HO53s1 hb; replace BK1a1 := kM BK1a1 hb; replace BK6a1 := kM BK6a1 hb; replace HB := bS bE hb; (try clear hb)
    refine hK.out _ _ (bkd10_ BK6a1 (bkc10_ BK1a1)) (fun hHeld => ?_)
    clear hK K
    refine nA 48 ?_
    refine pA (i := 21) (N := some 49) (bz 55 4194303) (any_of HT_.out (by kernel_rfl)) ?_
    refine pA (i := 22) (N := some 50) (bz 55 8388607) (any_of HT_.out (by kernel_rfl)) ?_
    refine pA (i := 23) (N := some 51) (bz 55 16777215) (any_of HT_.out (by kernel_rfl)) ?_
    refine tA20 (i := 24) (N := some 52) (bz 55 33554431) (take_ofW HT_.out HW_.out (by kernel_rfl)) hHeld ?_
    refine tA20 (i := 26) (N := some 54) (bz 55 100663295) (take_ofW HT_.out HW_.out (by kernel_rfl)) hHeld ?_
    refine one_ (i := 25) (N := some 53) (bz 55 134217727) rfl rfl (one_of HT_.out (by kernel_rfl)) (by decide) (fun K hK => ?_)
    refine gS Tryz.func27 #[.agg #[.string t3, .string t26, .string t27, .int .i64 t28, .bool t29, .slice Ao6a5 t30.length co6a5, .int .i64 t31, .int .u64 t32, .int .i64 t33, .int .i64 t34]] ?_
    with_reducible refine (ask_Key.calls k t3 t26 t27 t28 t29 _ _ t30 t31 t32 t33 t34 t12 _ ?side1 ?side2 ?side3 A18.out).mono ?_
    (case side1 => repeat (first | exact (Kd.R_reads' HO5a4.out).2.2 | (with_reducible refine Kd.C_alloc ?_ _) | (with_reducible refine Kd.C_drewN ?_ _) | (with_reducible refine Kd.C_drew ?_)))
    (case side2 => exact (Kd.R_reads' HO5a4.out).2.1)
    (case side3 => exact ⟨lE⟩)
    rintro e w149s1 ⟨rfl, hb⟩
    refine ⟨_, rfl, ?_⟩
    replace HO5a4 := rM HO5a4 hb; replace HO53s1 := rM HO53s1 hb; replace BK1a1 := kM BK1a1 hb; replace BK6a1 := kM BK6a1 hb; replace HB := bS bE hb; (try clear hb)
    refine hK.out _ _ (bkd10_ BK6a1 (bkc10_ BK1a1)) (fun hHeld => ?_)
    clear hK K
    refine nA 53 ?_
    refine one_ (i := 27) (N := some 55) (bz 55 268435455) rfl rfl (one_of HT_.out (by kernel_rfl)) (by decide) (fun K hK => ?_)
    refine gS Tryz.func27 #[.agg #[.string a0_0, .string a0_1, .string a0_2, .int .i64 a0_3, .bool a0_4, .slice A0_5 l0_5.length c0_5, .int .i64 a0_6, .int .u64 a0_7, .int .i64 a0_8, .int .i64 a0_9]] ?_
    with_reducible refine (ask_Key.calls k a0_0 a0_1 a0_2 a0_3 a0_4 _ _ l0_5 a0_6 a0_7 a0_8 a0_9 t13 _ ?side1 ?side2 ?side3 A19.out).mono ?_
    (case side1 => repeat (first | exact (Kd.C_below HR1_5.out HB.out) | (with_reducible refine Kd.C_alloc ?_ _) | (with_reducible refine Kd.C_drewN ?_ _) | (with_reducible refine Kd.C_drew ?_)))
    (case side2 => exact HC1_5.out)
    (case side3 => exact ⟨lE⟩)
    rintro e w161s1 ⟨rfl, hb⟩
    refine ⟨_, rfl, ?_⟩
    replace HO5a4 := rM HO5a4 hb; replace HO53s1 := rM HO53s1 hb; replace BK1a1 := kM BK1a1 hb; replace BK6a1 := kM BK6a1 hb; replace HB := bS bE hb; (try clear hb)
    refine hK.out _ _ (bkd10_ BK6a1 (bkc10_ BK1a1)) (fun hHeld => ?_)
    clear hK K
    refine nA 55 ?_
    refine pA (i := 28) (N := some 56) (bz 55 536870911) (any_of HT_.out (by kernel_rfl)) ?_
    refine pA (i := 29) (N := some 57) (bz 55 1073741823) (any_of HT_.out (by kernel_rfl)) ?_
    refine pA (i := 30) (N := some 58) (bz 55 2147483647) (any_of HT_.out (by kernel_rfl)) ?_
    refine tA20 (i := 31) (N := some 59) (bz 55 4294967295) (take_ofW HT_.out HW_.out (by kernel_rfl)) hHeld ?_
    refine tA20 (i := 33) (N := some 61) (bz 55 12884901887) (take_ofW HT_.out HW_.out (by kernel_rfl)) hHeld ?_
    refine one_ (i := 32) (N := some 60) (bz 55 17179869183) rfl rfl (one_of HT_.out (by kernel_rfl)) (by decide) (fun K hK => ?_)
    refine gS Tryz.func29 #[.agg #[.string t3, .string t26, .string t27, .int .i64 t28, .bool t29, .slice Ao6a5 t30.length co6a5, .int .i64 t31, .int .u64 t32, .int .i64 t33, .int .i64 t34]] ?_
    with_reducible refine (ask_Cell.calls k t3 t26 t27 t28 t29 _ _ t30 t31 t32 t33 t34 t14 t44 t45 _ ?side1 ?side2 ?side3 A21.out).mono ?_
    (case side1 => repeat (first | exact (Kd.R_reads' HO5a4.out).2.2 | (with_reducible refine Kd.C_alloc ?_ _) | (with_reducible refine Kd.C_drewN ?_ _) | (with_reducible refine Kd.C_drew ?_)))
    (case side2 => exact (Kd.R_reads' HO5a4.out).2.1)
    (case side3 => exact ⟨lE⟩)
    rintro e w178s1 ⟨rfl, hb⟩
    refine ⟨_, rfl, ?_⟩
    replace HO5a4 := rM HO5a4 hb; replace HO53s1 := rM HO53s1 hb; replace BK1a1 := kM BK1a1 hb; replace BK6a1 := kM BK6a1 hb; replace HB := bS bE hb; (try clear hb)
    refine hK.out _ _ (bkd10_ BK6a1 (bkc10_ BK1a1)) (fun hHeld => ?_)
    clear hK K
    refine nA 60 ?_
    refine one_ (i := 34) (N := some 62) (bz 55 34359738367) rfl rfl (one_of HT_.out (by kernel_rfl)) (by decide) (fun K hK => ?_)
    refine gS Tryz.func29 #[.agg #[.string a0_0, .string a0_1, .string a0_2, .int .i64 a0_3, .bool a0_4, .slice A0_5 l0_5.length c0_5, .int .i64 a0_6, .int .u64 a0_7, .int .i64 a0_8, .int .i64 a0_9]] ?_
    with_reducible refine (ask_Cell.calls k a0_0 a0_1 a0_2 a0_3 a0_4 _ _ l0_5 a0_6 a0_7 a0_8 a0_9 t15 t46 t47 _ ?side1 ?side2 ?side3 A22.out).mono ?_
    (case side1 => repeat (first | exact (Kd.C_below HR1_5.out HB.out) | (with_reducible refine Kd.C_alloc ?_ _) | (with_reducible refine Kd.C_drewN ?_ _) | (with_reducible refine Kd.C_drew ?_)))
    (case side2 => exact HC1_5.out)
    (case side3 => exact ⟨lE⟩)
    rintro e w190s1 ⟨rfl, hb⟩
    refine ⟨_, rfl, ?_⟩
    replace HO5a4 := rM HO5a4 hb; replace HO53s1 := rM HO53s1 hb; replace BK1a1 := kM BK1a1 hb; replace BK6a1 := kM BK6a1 hb; replace HB := bS bE hb; (try clear hb)
    refine hK.out _ _ (bkd10_ BK6a1 (bkc10_ BK1a1)) (fun hHeld => ?_)
    clear hK K
    refine nA 62 ?_
    refine pA (i := 35) (N := some 63) (bz 55 68719476735) (any_of HT_.out (by kernel_rfl)) ?_
    refine pA (i := 36) (N := some 64) (bz 55 137438953471) (any_of HT_.out (by kernel_rfl)) ?_
    refine pA (i := 37) (N := some 65) (bz 55 274877906943) (any_of HT_.out (by kernel_rfl)) ?_
    refine tA20 (i := 38) (N := some 66) (bz 55 549755813887) (take_ofW HT_.out HW_.out (by kernel_rfl)) hHeld ?_
    refine tA20 (i := 40) (N := some 68) (bz 55 1649267441663) (take_ofW HT_.out HW_.out (by kernel_rfl)) hHeld ?_
    refine one_ (i := 39) (N := some 67) (bz 55 2199023255551) rfl rfl (one_of HT_.out (by kernel_rfl)) (by decide) (fun K hK => ?_)
    refine gS Tryz.func31 #[.agg #[.string t3, .string t26, .string t27, .int .i64 t28, .bool t29, .slice Ao6a5 t30.length co6a5, .int .i64 t31, .int .u64 t32, .int .i64 t33, .int .i64 t34]] ?_
    with_reducible refine (ask_Want.calls k t3 t26 t27 t28 t29 _ _ t30 t31 t32 t33 t34 t16 t48 t49 t50 t51 _ ?side1 ?side2 ?side3 A24.out).mono ?_
    (case side1 => repeat (first | exact (Kd.R_reads' HO5a4.out).2.2 | (with_reducible refine Kd.C_alloc ?_ _) | (with_reducible refine Kd.C_drewN ?_ _) | (with_reducible refine Kd.C_drew ?_)))
    (case side2 => exact (Kd.R_reads' HO5a4.out).2.1)
    (case side3 => exact ⟨lE⟩)
    rintro e w207s1 ⟨rfl, hb⟩
    refine ⟨_, rfl, ?_⟩
    replace HO5a4 := rM HO5a4 hb; replace HO53s1 := rM HO53s1 hb; replace BK1a1 := kM BK1a1 hb; replace BK6a1 := kM BK6a1 hb; replace HB := bS bE hb; (try clear hb)
    refine hK.out _ _ (bkd10_ BK6a1 (bkc10_ BK1a1)) (fun hHeld => ?_)
    clear hK K
    refine nA 67 ?_
    refine one_ (i := 41) (N := some 69) (bz 55 4398046511103) rfl rfl (one_of HT_.out (by kernel_rfl)) (by decide) (fun K hK => ?_)
    refine gS Tryz.func31 #[.agg #[.string a0_0, .string a0_1, .string a0_2, .int .i64 a0_3, .bool a0_4, .slice A0_5 l0_5.length c0_5, .int .i64 a0_6, .int .u64 a0_7, .int .i64 a0_8, .int .i64 a0_9]] ?_
    with_reducible refine (ask_Want.calls k a0_0 a0_1 a0_2 a0_3 a0_4 _ _ l0_5 a0_6 a0_7 a0_8 a0_9 t17 t52 t53 t54 t55 _ ?side1 ?side2 ?side3 A25.out).mono ?_
    (case side1 => repeat (first | exact (Kd.C_below HR1_5.out HB.out) | (with_reducible refine Kd.C_alloc ?_ _) | (with_reducible refine Kd.C_drewN ?_ _) | (with_reducible refine Kd.C_drew ?_)))
    (case side2 => exact HC1_5.out)
    (case side3 => exact ⟨lE⟩)
    rintro e w219s1 ⟨rfl, hb⟩
    refine ⟨_, rfl, ?_⟩
    replace HO5a4 := rM HO5a4 hb; replace HO53s1 := rM HO53s1 hb; replace BK1a1 := kM BK1a1 hb; replace BK6a1 := kM BK6a1 hb; replace HB := bS bE hb; (try clear hb)
    refine hK.out _ _ (bkd10_ BK6a1 (bkc10_ BK1a1)) (fun hHeld => ?_)
    clear hK K
    refine nA 69 ?_
    refine pA (i := 42) (N := some 70) (bz 55 8796093022207) (any_of HT_.out (by kernel_rfl)) ?_
    refine pA (i := 43) (N := some 71) (bz 55 17592186044415) (any_of HT_.out (by kernel_rfl)) ?_
    refine pA (i := 44) (N := some 72) (bz 55 35184372088831) (any_of HT_.out (by kernel_rfl)) ?_
    refine tA20 (i := 45) (N := some 73) (bz 55 70368744177663) (take_ofW HT_.out HW_.out (by kernel_rfl)) hHeld ?_
    refine tA20 (i := 47) (N := some 75) (bz 55 211106232532991) (take_ofW HT_.out HW_.out (by kernel_rfl)) hHeld ?_
    refine one_ (i := 46) (N := some 74) (bz 55 281474976710655) rfl rfl (one_of HT_.out (by kernel_rfl)) (by decide) (fun K hK => ?_)
    refine gS Tryz.func24 #[.agg #[.string t3, .string t26, .string t27, .int .i64 t28, .bool t29, .slice Ao6a5 t30.length co6a5, .int .i64 t31, .int .u64 t32, .int .i64 t33, .int .i64 t34]] ?_
    with_reducible refine (ask_Names.calls k t3 t26 t27 t28 t29 _ _ t30 t31 t32 t33 t34 t18 _ ?side1 ?side2 ?side3 A27.out).mono ?_
    (case side1 => repeat (first | exact (Kd.R_reads' HO5a4.out).2.2 | (with_reducible refine Kd.C_alloc ?_ _) | (with_reducible refine Kd.C_drewN ?_ _) | (with_reducible refine Kd.C_drew ?_)))
    (case side2 => exact (Kd.R_reads' HO5a4.out).2.1)
    (case side3 => exact ⟨lE⟩)
    rintro e w236s1 ⟨v236s2, rfl, ho5a3, hb⟩
    refine ⟨_, rfl, ?_⟩
    have n0_ := rM HO5a4 hb
    have n1_ := rM HO53s1 hb
    have n2_ := Aside0.mk (Kd.R_lower ho5a3 (below_size bE))
    have n3_ := kM BK1a1 hb
    have n4_ := kM BK6a1 hb
    have n5_ := bS bE hb
    clear HO5a4
    clear HO53s1
    clear BK1a1
    clear BK6a1
    clear HB
    have HO5a4 := n0_
    have HO53s1 := n1_
    have HO251s1 := n2_
    have BK1a1 := n3_
    have BK6a1 := n4_
    have HB := n5_
    clear n0_ n1_ n2_ n3_ n4_ n5_
    (try clear hb)
    (try clear hb2)
    (try clear hk)
    (try clear hi)
    (try clear ho5a3)
    refine hK.out _ _ (bkd10_ BK6a1 (bkc10_ BK1a1)) (fun hHeld => ?_)
    clear hK K
    refine nA 74 ?_
    refine one_ (i := 48) (N := some 76) (bz 55 562949953421311) rfl rfl (one_of HT_.out (by kernel_rfl)) (by decide) (fun K hK => ?_)
    refine gS Tryz.func24 #[.agg #[.string a0_0, .string a0_1, .string a0_2, .int .i64 a0_3, .bool a0_4, .slice A0_5 l0_5.length c0_5, .int .i64 a0_6, .int .u64 a0_7, .int .i64 a0_8, .int .i64 a0_9]] ?_
    with_reducible refine (ask_Names.calls k a0_0 a0_1 a0_2 a0_3 a0_4 _ _ l0_5 a0_6 a0_7 a0_8 a0_9 t19 _ ?side1 ?side2 ?side3 A28.out).mono ?_
    (case side1 => repeat (first | exact (Kd.C_below HR1_5.out HB.out) | (with_reducible refine Kd.C_alloc ?_ _) | (with_reducible refine Kd.C_drewN ?_ _) | (with_reducible refine Kd.C_drew ?_)))
    (case side2 => exact HC1_5.out)
    (case side3 => exact ⟨lE⟩)
    rintro e w270s1 ⟨v270s2, rfl, ho5a3, hb⟩
    refine ⟨_, rfl, ?_⟩
    have n0_ := rM HO5a4 hb
    have n1_ := rM HO53s1 hb
    have n2_ := Aside0.mk (Kd.R_elder' (rK HO251s1.out) (Kd.R_base ho5a3) hb)
    have n3_ := Aside0.mk (Kd.R_lower (Kd.R_new' ho5a3 (Kd.R_lt (rK HO251s1.out))) (below_size bE))
    have n4_ := kM BK1a1 hb
    have n5_ := kM BK6a1 hb
    have n6_ := bS bE hb
    clear HO5a4
    clear HO53s1
    clear HO251s1
    clear BK1a1
    clear BK6a1
    clear HB
    have HO5a4 := n0_
    have HO53s1 := n1_
    have HO251s1 := n2_
    have HO288s1 := n3_
    have BK1a1 := n4_
    have BK6a1 := n5_
    have HB := n6_
    clear n0_ n1_ n2_ n3_ n4_ n5_ n6_
    (try clear hb)
    (try clear hb2)
    (try clear hk)
    (try clear hi)
    (try clear ho5a3)
    obtain ⟨Ao298s1, co298s1, eo298s1⟩ := Kd.R_slice HO251s1.out
    (first | subst eo298s1 | (injection eo298s1 with f1_ f2_ f3_; have f4_ := f1_.symm; have f5_ := f3_.symm; clear f1_ f2_ f3_; subst f4_; subst f5_))
    obtain ⟨Ao300s1, co300s1, eo300s1⟩ := Kd.R_slice HO288s1.out
    (first | subst eo300s1 | (injection eo300s1 with f1_ f2_ f3_; have f4_ := f1_.symm; have f5_ := f3_.symm; clear f1_ f2_ f3_; subst f4_; subst f5_))
    refine hK.out _ _ (bkd10_ BK6a1 (bkc10_ BK1a1)) (fun hHeld => ?_)
    clear hK K
    refine nA 76 ?_
    refine one_ (i := 49) (N := some 77) (bz 55 1125899906842623) rfl rfl (one_of HT_.out (by kernel_rfl)) (by decide) (fun K hK => ?_)
    refine gS Tryz.func23 #[.slice Ao298s1 t18.length co298s1, .slice Ao300s1 t19.length co300s1] ?_
    with_reducible refine (lockkeeperlaw0_Texts.calls k _ _ t18 _ _ t19 true _ ?side1 ?side2 ?side3 ?side4 A29.out).mono ?_
    (case side1 => repeat (first | exact (Kd.R_reads' HO251s1.out).2.2 | (with_reducible refine Kd.C_alloc ?_ _) | (with_reducible refine Kd.C_drewN ?_ _) | (with_reducible refine Kd.C_drew ?_)))
    (case side2 => exact (Kd.R_reads' HO251s1.out).2.1)
    (case side3 => repeat (first | exact (Kd.R_reads' HO288s1.out).2.2 | (with_reducible refine Kd.C_alloc ?_ _) | (with_reducible refine Kd.C_drewN ?_ _) | (with_reducible refine Kd.C_drew ?_)))
    (case side4 => exact (Kd.R_reads' HO288s1.out).2.1)
    rintro e w' ⟨rfl, ⟨nd, rfl⟩⟩
    refine ⟨_, rfl, ?_⟩
    refine hK.out _ _ (bkd10_ BK6a1 (bkc10_ BK1a1)) (fun hHeld => ?_)
    clear hK K
    refine nA 77 ?_
    refine pA (i := 50) (N := some 78) (bz 55 2251799813685247) (any_of HT_.out (by kernel_rfl)) ?_
    refine pA (i := 51) (N := some 79) (bz 55 4503599627370495) (any_of HT_.out (by kernel_rfl)) ?_
    refine one_ (i := 52) (N := some 80) (bz 55 9007199254740991) rfl rfl (one_of HT_.out (by kernel_rfl)) (by decide) (fun K hK => ?_)
    refine gS Tryz.func15 #[] ?_
    with_reducible refine (lockkeeperlaw8_awake.calls k  t21 _ ?side1 A31.out).mono ?_
    (case side1 => exact ⟨lE⟩)
    rintro e w323s1 ⟨rfl, hb⟩
    refine ⟨_, rfl, ?_⟩
    replace HO5a4 := rM HO5a4 hb; replace HO53s1 := rM HO53s1 hb; replace HO251s1 := rM HO251s1 hb; replace HO288s1 := rM HO288s1 hb; replace BK1a1 := kM BK1a1 hb; replace BK6a1 := kM BK6a1 hb; replace HB := bS bE hb; (try clear hb)
    refine hK.out _ _ (bkd10_ BK6a1 (bkc10_ BK1a1)) (fun hHeld => ?_)
    clear hK K
    refine nA 80 ?_
    refine pA (i := 53) (N := some 81) (bz 55 18014398509481983) (any_of HT_.out (by kernel_rfl)) ?_
    refine pA (i := 54) (N := some 2) (bz 55 36028797018963967) (any_of HT_.out (by kernel_rfl)) ?_
    refine done_ (done_of HT_.out (by kernel_rfl)) ?_
    try go_wp2
    go_ret
    exact ⟨rE, bE⟩
end Go.Proofs.YtfmajangcbgooaaGreatDoor.Pr
