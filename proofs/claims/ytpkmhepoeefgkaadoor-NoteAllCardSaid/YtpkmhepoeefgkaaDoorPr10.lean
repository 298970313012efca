-- Made by a program of this session (wip/xp/xp.py), over the print's words.
import Derived.Test.YtpkmhepoeefgkaaDoorPr0
import Derived.Test.YtpkmhepoeefgkaaDoorPr1
import Derived.Test.YtpkmhepoeefgkaaDoorPr7
import Derived.Test.YtpkmhepoeefgkaaDoorPr9
namespace Go.Proofs.YtpkmhepoeefgkaaDoor.Pr
open Go.RowKit Go.Proofs.YtpkmhepoeefgkaaDoorW.PrintWords Go.Proofs.YtpkmhepoeefgkaaDoorW.PrintLast Go.Proofs.YtpkmhepoeefgkaaDoorW.PrintMore
attribute [local go_sem] max2_int min2_int max_two min_two max_three min_three max_four min_four   -- for this text's walks alone
set_option linter.unusedVariables false
set_option linter.unusedSimpArgs false

attribute [local go_sem high] eqA24
/-! ### lockkeeperref24_Show: function 18 -/
def lockkeeperref24_Show.f (k : Nat) (a0_0 : Int) (a0_1 : Int) (a0_2 : Int) (a0_3 : Int) (a0_4 : Int) (a0_5 : Int) (a0_6 : Int) : Option (ByteArray) := (lockkeeperref24_Check.f a0_0 a0_1 a0_2 a0_3 a0_4 a0_5 a0_6).bind fun t275 => (if t275 = true then ((lockkeeperref24_num.f k a0_0).bind fun t276 => (if t276.size + 1 ≤ 9223372036854775807 then ((lockkeeperref1_Num.f k a0_1).bind fun t277 => (if (t276 ++ (⟨#[32]⟩ : ByteArray)).size + t277.size ≤ 9223372036854775807 then (if ((t276 ++ (⟨#[32]⟩ : ByteArray)) ++ t277).size + 1 ≤ 9223372036854775807 then ((lockkeeperref24_Name.f a0_2).bind fun t278 => (if (((t276 ++ (⟨#[32]⟩ : ByteArray)) ++ t277) ++ (⟨#[32]⟩ : ByteArray)).size + t278.size ≤ 9223372036854775807 then (if ((((t276 ++ (⟨#[32]⟩ : ByteArray)) ++ t277) ++ (⟨#[32]⟩ : ByteArray)) ++ t278).size + 1 ≤ 9223372036854775807 then ((lockkeeperref24_num.f k a0_3).bind fun t279 => (if (((((t276 ++ (⟨#[32]⟩ : ByteArray)) ++ t277) ++ (⟨#[32]⟩ : ByteArray)) ++ t278) ++ (⟨#[32]⟩ : ByteArray)).size + t279.size ≤ 9223372036854775807 then (if ((((((t276 ++ (⟨#[32]⟩ : ByteArray)) ++ t277) ++ (⟨#[32]⟩ : ByteArray)) ++ t278) ++ (⟨#[32]⟩ : ByteArray)) ++ t279).size + 1 ≤ 9223372036854775807 then ((lockkeeperref24_num.f k a0_4).bind fun t280 => (if (((((((t276 ++ (⟨#[32]⟩ : ByteArray)) ++ t277) ++ (⟨#[32]⟩ : ByteArray)) ++ t278) ++ (⟨#[32]⟩ : ByteArray)) ++ t279) ++ (⟨#[32]⟩ : ByteArray)).size + t280.size ≤ 9223372036854775807 then (if ((((((((t276 ++ (⟨#[32]⟩ : ByteArray)) ++ t277) ++ (⟨#[32]⟩ : ByteArray)) ++ t278) ++ (⟨#[32]⟩ : ByteArray)) ++ t279) ++ (⟨#[32]⟩ : ByteArray)) ++ t280).size + 1 ≤ 9223372036854775807 then ((lockkeeperref24_num.f k a0_5).bind fun t281 => (if (((((((((t276 ++ (⟨#[32]⟩ : ByteArray)) ++ t277) ++ (⟨#[32]⟩ : ByteArray)) ++ t278) ++ (⟨#[32]⟩ : ByteArray)) ++ t279) ++ (⟨#[32]⟩ : ByteArray)) ++ t280) ++ (⟨#[32]⟩ : ByteArray)).size + t281.size ≤ 9223372036854775807 then (if ((((((((((t276 ++ (⟨#[32]⟩ : ByteArray)) ++ t277) ++ (⟨#[32]⟩ : ByteArray)) ++ t278) ++ (⟨#[32]⟩ : ByteArray)) ++ t279) ++ (⟨#[32]⟩ : ByteArray)) ++ t280) ++ (⟨#[32]⟩ : ByteArray)) ++ t281).size + 1 ≤ 9223372036854775807 then ((lockkeeperref24_num.f k a0_6).bind fun t282 => (if (((((((((((t276 ++ (⟨#[32]⟩ : ByteArray)) ++ t277) ++ (⟨#[32]⟩ : ByteArray)) ++ t278) ++ (⟨#[32]⟩ : ByteArray)) ++ t279) ++ (⟨#[32]⟩ : ByteArray)) ++ t280) ++ (⟨#[32]⟩ : ByteArray)) ++ t281) ++ (⟨#[32]⟩ : ByteArray)).size + t282.size ≤ 9223372036854775807 then (some ((((((((((((t276 ++ (⟨#[32]⟩ : ByteArray)) ++ t277) ++ (⟨#[32]⟩ : ByteArray)) ++ t278) ++ (⟨#[32]⟩ : ByteArray)) ++ t279) ++ (⟨#[32]⟩ : ByteArray)) ++ t280) ++ (⟨#[32]⟩ : ByteArray)) ++ t281) ++ (⟨#[32]⟩ : ByteArray)) ++ t282)) else (none))) else (none)) else (none))) else (none)) else (none))) else (none)) else (none))) else (none)) else (none))) else (none)) else (none))) else (none))) else (some (⟨#[]⟩ : ByteArray)))
theorem lockkeeperref24_Show.mono : ∀ a0 a1 a2 a3 a4 a5 a6 k, LeO (lockkeeperref24_Show.f k a0 a1 a2 a3 a4 a5 a6) (lockkeeperref24_Show.f (k + 1) a0 a1 a2 a3 a4 a5 a6) := by
 intro a0 a1 a2 a3 a4 a5 a6 k
 unfold lockkeeperref24_Show.f
 repeat' first
   | (with_reducible exact lockkeeperref1_Num.mono _ _)
   | (with_reducible exact lockkeeperref24_num.mono _ _)
   | (with_reducible exact LeO.refl _)
   | (with_reducible exact LeO.none _)
   | (with_reducible refine LeO.ite ?_ ?_)
   | (with_reducible refine LeO.bind ?_ (fun _ => ?_))
   | exact lockkeeperref1_Num.mono _ _
   | exact lockkeeperref24_num.mono _ _
   | exact LeO.none _
   | refine LeO.ite ?_ ?_
   | refine LeO.bind ?_ (fun _ => ?_)
def lockkeeperref24_Show.T3 : Bool × List (List Nat × List Nat) := (true, [([], []), ([0], [0]), ([1], [1]), ([2], [2]), ([], []), ([4], [4]), ([5, 2], [5]), ([3, 6], [3, 6]), ([7], [7]), ([], []), ([9], [9]), ([10, 6], [10]), ([8, 11], [8, 11]), ([12], [12]), ([], []), ([14], [14]), ([15, 11], [15]), ([13, 16], [13, 16]), ([17], [17]), ([], []), ([19], [19]), ([20, 16], [20]), ([18, 21], [18, 21]), ([22], [22]), ([], []), ([24], [24]), ([25, 21], [25]), ([23, 26], [23, 26]), ([27], [27]), ([], []), ([29], [29]), ([30, 26], [30]), ([28, 31], [28, 31]), ([32, 31, 0, 1, 2, 3, 4, 5, 6, 7, 8, 9, 10, 11, 12, 13, 14, 15, 16, 17, 18, 19, 20, 21, 22, 23, 24, 25, 26, 27, 28, 29, 30, 31, 32], [32])])
def lockkeeperref24_Show.B3 : List Nat := [0, 1, 3, 7, 0, 16, 55, 127, 255, 0, 512, 1655, 4095, 8191, 0, 16384, 52855, 131071, 262143, 0, 524288, 1691255, 4194303, 8388607, 0, 16777216, 54120055, 134217727, 268435455, 0, 536870912, 1731841655, 4294967295, 8589934591]
theorem lockkeeperref24_Show.tab3 : rtab .any (opsOf Tryd.f18 3) = lockkeeperref24_Show.T3 := by kernel_rfl
theorem lockkeeperref24_Show.bits3 : waitsOk lockkeeperref24_Show.T3.2 lockkeeperref24_Show.B3 = true := by kernel_rfl
set_option maxHeartbeats 8000000 in
set_option maxRecDepth 100000 in
theorem lockkeeperref24_Show.calls (k : Nat) (a0_0 : Int) (a0_1 : Int) (a0_2 : Int) (a0_3 : Int) (a0_4 : Int) (a0_5 : Int) (a0_6 : Int) (r : ByteArray) (w : World) (h : lockkeeperref24_Show.f k a0_0 a0_1 a0_2 a0_3 a0_4 a0_5 a0_6 = some r) :
  Calls Tryd.prog 18 #[.agg #[.int .i64 a0_0, .int .u64 a0_1, .int .i64 a0_2, .int .i64 a0_3, .int .i64 a0_4, .int .i64 a0_5, .int .i64 a0_6]] w fun e w' => e = .returned (.string r) ∧ Below w.heap.size w w' := by
 have hu24 := Tryd.underlying24
 have HB := Aside0.mk (Below.refl w.heap.size w)
 have H : ((lockkeeperref24_Check.f a0_0 a0_1 a0_2 a0_3 a0_4 a0_5 a0_6).bind fun t275 => (if t275 = true then ((lockkeeperref24_num.f k a0_0).bind fun t276 => (if t276.size + 1 ≤ 9223372036854775807 then ((lockkeeperref1_Num.f k a0_1).bind fun t277 => (if (t276 ++ (⟨#[32]⟩ : ByteArray)).size + t277.size ≤ 9223372036854775807 then (if ((t276 ++ (⟨#[32]⟩ : ByteArray)) ++ t277).size + 1 ≤ 9223372036854775807 then ((lockkeeperref24_Name.f a0_2).bind fun t278 => (if (((t276 ++ (⟨#[32]⟩ : ByteArray)) ++ t277) ++ (⟨#[32]⟩ : ByteArray)).size + t278.size ≤ 9223372036854775807 then (if ((((t276 ++ (⟨#[32]⟩ : ByteArray)) ++ t277) ++ (⟨#[32]⟩ : ByteArray)) ++ t278).size + 1 ≤ 9223372036854775807 then ((lockkeeperref24_num.f k a0_3).bind fun t279 => (if (((((t276 ++ (⟨#[32]⟩ : ByteArray)) ++ t277) ++ (⟨#[32]⟩ : ByteArray)) ++ t278) ++ (⟨#[32]⟩ : ByteArray)).size + t279.size ≤ 9223372036854775807 then (if ((((((t276 ++ (⟨#[32]⟩ : ByteArray)) ++ t277) ++ (⟨#[32]⟩ : ByteArray)) ++ t278) ++ (⟨#[32]⟩ : ByteArray)) ++ t279).size + 1 ≤ 9223372036854775807 then ((lockkeeperref24_num.f k a0_4).bind fun t280 => (if (((((((t276 ++ (⟨#[32]⟩ : ByteArray)) ++ t277) ++ (⟨#[32]⟩ : ByteArray)) ++ t278) ++ (⟨#[32]⟩ : ByteArray)) ++ t279) ++ (⟨#[32]⟩ : ByteArray)).size + t280.size ≤ 9223372036854775807 then (if ((((((((t276 ++ (⟨#[32]⟩ : ByteArray)) ++ t277) ++ (⟨#[32]⟩ : ByteArray)) ++ t278) ++ (⟨#[32]⟩ : ByteArray)) ++ t279) ++ (⟨#[32]⟩ : ByteArray)) ++ t280).size + 1 ≤ 9223372036854775807 then ((lockkeeperref24_num.f k a0_5).bind fun t281 => (if (((((((((t276 ++ (⟨#[32]⟩ : ByteArray)) ++ t277) ++ (⟨#[32]⟩ : ByteArray)) ++ t278) ++ (⟨#[32]⟩ : ByteArray)) ++ t279) ++ (⟨#[32]⟩ : ByteArray)) ++ t280) ++ (⟨#[32]⟩ : ByteArray)).size + t281.size ≤ 9223372036854775807 then (if ((((((((((t276 ++ (⟨#[32]⟩ : ByteArray)) ++ t277) ++ (⟨#[32]⟩ : ByteArray)) ++ t278) ++ (⟨#[32]⟩ : ByteArray)) ++ t279) ++ (⟨#[32]⟩ : ByteArray)) ++ t280) ++ (⟨#[32]⟩ : ByteArray)) ++ t281).size + 1 ≤ 9223372036854775807 then ((lockkeeperref24_num.f k a0_6).bind fun t282 => (if (((((((((((t276 ++ (⟨#[32]⟩ : ByteArray)) ++ t277) ++ (⟨#[32]⟩ : ByteArray)) ++ t278) ++ (⟨#[32]⟩ : ByteArray)) ++ t279) ++ (⟨#[32]⟩ : ByteArray)) ++ t280) ++ (⟨#[32]⟩ : ByteArray)) ++ t281) ++ (⟨#[32]⟩ : ByteArray)).size + t282.size ≤ 9223372036854775807 then (some ((((((((((((t276 ++ (⟨#[32]⟩ : ByteArray)) ++ t277) ++ (⟨#[32]⟩ : ByteArray)) ++ t278) ++ (⟨#[32]⟩ : ByteArray)) ++ t279) ++ (⟨#[32]⟩ : ByteArray)) ++ t280) ++ (⟨#[32]⟩ : ByteArray)) ++ t281) ++ (⟨#[32]⟩ : ByteArray)) ++ t282)) else (none))) else (none)) else (none))) else (none)) else (none))) else (none)) else (none))) else (none)) else (none))) else (none)) else (none))) else (none))) else (some (⟨#[]⟩ : ByteArray)))) = some r := h
 clear h
 replace H := Option.bind_eq_some_iff.mp H
 obtain ⟨t275, A20, H⟩ := H
 replace H : (if t275 = true then ((lockkeeperref24_num.f k a0_0).bind fun t276 => (if t276.size + 1 ≤ 9223372036854775807 then ((lockkeeperref1_Num.f k a0_1).bind fun t277 => (if (t276 ++ (⟨#[32]⟩ : ByteArray)).size + t277.size ≤ 9223372036854775807 then (if ((t276 ++ (⟨#[32]⟩ : ByteArray)) ++ t277).size + 1 ≤ 9223372036854775807 then ((lockkeeperref24_Name.f a0_2).bind fun t278 => (if (((t276 ++ (⟨#[32]⟩ : ByteArray)) ++ t277) ++ (⟨#[32]⟩ : ByteArray)).size + t278.size ≤ 9223372036854775807 then (if ((((t276 ++ (⟨#[32]⟩ : ByteArray)) ++ t277) ++ (⟨#[32]⟩ : ByteArray)) ++ t278).size + 1 ≤ 9223372036854775807 then ((lockkeeperref24_num.f k a0_3).bind fun t279 => (if (((((t276 ++ (⟨#[32]⟩ : ByteArray)) ++ t277) ++ (⟨#[32]⟩ : ByteArray)) ++ t278) ++ (⟨#[32]⟩ : ByteArray)).size + t279.size ≤ 9223372036854775807 then (if ((((((t276 ++ (⟨#[32]⟩ : ByteArray)) ++ t277) ++ (⟨#[32]⟩ : ByteArray)) ++ t278) ++ (⟨#[32]⟩ : ByteArray)) ++ t279).size + 1 ≤ 9223372036854775807 then ((lockkeeperref24_num.f k a0_4).bind fun t280 => (if (((((((t276 ++ (⟨#[32]⟩ : ByteArray)) ++ t277) ++ (⟨#[32]⟩ : ByteArray)) ++ t278) ++ (⟨#[32]⟩ : ByteArray)) ++ t279) ++ (⟨#[32]⟩ : ByteArray)).size + t280.size ≤ 9223372036854775807 then (if ((((((((t276 ++ (⟨#[32]⟩ : ByteArray)) ++ t277) ++ (⟨#[32]⟩ : ByteArray)) ++ t278) ++ (⟨#[32]⟩ : ByteArray)) ++ t279) ++ (⟨#[32]⟩ : ByteArray)) ++ t280).size + 1 ≤ 9223372036854775807 then ((lockkeeperref24_num.f k a0_5).bind fun t281 => (if (((((((((t276 ++ (⟨#[32]⟩ : ByteArray)) ++ t277) ++ (⟨#[32]⟩ : ByteArray)) ++ t278) ++ (⟨#[32]⟩ : ByteArray)) ++ t279) ++ (⟨#[32]⟩ : ByteArray)) ++ t280) ++ (⟨#[32]⟩ : ByteArray)).size + t281.size ≤ 9223372036854775807 then (if ((((((((((t276 ++ (⟨#[32]⟩ : ByteArray)) ++ t277) ++ (⟨#[32]⟩ : ByteArray)) ++ t278) ++ (⟨#[32]⟩ : ByteArray)) ++ t279) ++ (⟨#[32]⟩ : ByteArray)) ++ t280) ++ (⟨#[32]⟩ : ByteArray)) ++ t281).size + 1 ≤ 9223372036854775807 then ((lockkeeperref24_num.f k a0_6).bind fun t282 => (if (((((((((((t276 ++ (⟨#[32]⟩ : ByteArray)) ++ t277) ++ (⟨#[32]⟩ : ByteArray)) ++ t278) ++ (⟨#[32]⟩ : ByteArray)) ++ t279) ++ (⟨#[32]⟩ : ByteArray)) ++ t280) ++ (⟨#[32]⟩ : ByteArray)) ++ t281) ++ (⟨#[32]⟩ : ByteArray)).size + t282.size ≤ 9223372036854775807 then (some ((((((((((((t276 ++ (⟨#[32]⟩ : ByteArray)) ++ t277) ++ (⟨#[32]⟩ : ByteArray)) ++ t278) ++ (⟨#[32]⟩ : ByteArray)) ++ t279) ++ (⟨#[32]⟩ : ByteArray)) ++ t280) ++ (⟨#[32]⟩ : ByteArray)) ++ t281) ++ (⟨#[32]⟩ : ByteArray)) ++ t282)) else (none))) else (none)) else (none))) else (none)) else (none))) else (none)) else (none))) else (none)) else (none))) else (none)) else (none))) else (none))) else (some (⟨#[]⟩ : ByteArray))) = some r := H
 have A2 := Aside0.mk A20
 clear A20
 by_cases c3 : t275 = true
 ·subst c3
  have H1 : ((lockkeeperref24_num.f k a0_0).bind fun t276 => (if t276.size + 1 ≤ 9223372036854775807 then ((lockkeeperref1_Num.f k a0_1).bind fun t277 => (if (t276 ++ (⟨#[32]⟩ : ByteArray)).size + t277.size ≤ 9223372036854775807 then (if ((t276 ++ (⟨#[32]⟩ : ByteArray)) ++ t277).size + 1 ≤ 9223372036854775807 then ((lockkeeperref24_Name.f a0_2).bind fun t278 => (if (((t276 ++ (⟨#[32]⟩ : ByteArray)) ++ t277) ++ (⟨#[32]⟩ : ByteArray)).size + t278.size ≤ 9223372036854775807 then (if ((((t276 ++ (⟨#[32]⟩ : ByteArray)) ++ t277) ++ (⟨#[32]⟩ : ByteArray)) ++ t278).size + 1 ≤ 9223372036854775807 then ((lockkeeperref24_num.f k a0_3).bind fun t279 => (if (((((t276 ++ (⟨#[32]⟩ : ByteArray)) ++ t277) ++ (⟨#[32]⟩ : ByteArray)) ++ t278) ++ (⟨#[32]⟩ : ByteArray)).size + t279.size ≤ 9223372036854775807 then (if ((((((t276 ++ (⟨#[32]⟩ : ByteArray)) ++ t277) ++ (⟨#[32]⟩ : ByteArray)) ++ t278) ++ (⟨#[32]⟩ : ByteArray)) ++ t279).size + 1 ≤ 9223372036854775807 then ((lockkeeperref24_num.f k a0_4).bind fun t280 => (if (((((((t276 ++ (⟨#[32]⟩ : ByteArray)) ++ t277) ++ (⟨#[32]⟩ : ByteArray)) ++ t278) ++ (⟨#[32]⟩ : ByteArray)) ++ t279) ++ (⟨#[32]⟩ : ByteArray)).size + t280.size ≤ 9223372036854775807 then (if ((((((((t276 ++ (⟨#[32]⟩ : ByteArray)) ++ t277) ++ (⟨#[32]⟩ : ByteArray)) ++ t278) ++ (⟨#[32]⟩ : ByteArray)) ++ t279) ++ (⟨#[32]⟩ : ByteArray)) ++ t280).size + 1 ≤ 9223372036854775807 then ((lockkeeperref24_num.f k a0_5).bind fun t281 => (if (((((((((t276 ++ (⟨#[32]⟩ : ByteArray)) ++ t277) ++ (⟨#[32]⟩ : ByteArray)) ++ t278) ++ (⟨#[32]⟩ : ByteArray)) ++ t279) ++ (⟨#[32]⟩ : ByteArray)) ++ t280) ++ (⟨#[32]⟩ : ByteArray)).size + t281.size ≤ 9223372036854775807 then (if ((((((((((t276 ++ (⟨#[32]⟩ : ByteArray)) ++ t277) ++ (⟨#[32]⟩ : ByteArray)) ++ t278) ++ (⟨#[32]⟩ : ByteArray)) ++ t279) ++ (⟨#[32]⟩ : ByteArray)) ++ t280) ++ (⟨#[32]⟩ : ByteArray)) ++ t281).size + 1 ≤ 9223372036854775807 then ((lockkeeperref24_num.f k a0_6).bind fun t282 => (if (((((((((((t276 ++ (⟨#[32]⟩ : ByteArray)) ++ t277) ++ (⟨#[32]⟩ : ByteArray)) ++ t278) ++ (⟨#[32]⟩ : ByteArray)) ++ t279) ++ (⟨#[32]⟩ : ByteArray)) ++ t280) ++ (⟨#[32]⟩ : ByteArray)) ++ t281) ++ (⟨#[32]⟩ : ByteArray)).size + t282.size ≤ 9223372036854775807 then (some ((((((((((((t276 ++ (⟨#[32]⟩ : ByteArray)) ++ t277) ++ (⟨#[32]⟩ : ByteArray)) ++ t278) ++ (⟨#[32]⟩ : ByteArray)) ++ t279) ++ (⟨#[32]⟩ : ByteArray)) ++ t280) ++ (⟨#[32]⟩ : ByteArray)) ++ t281) ++ (⟨#[32]⟩ : ByteArray)) ++ t282)) else (none))) else (none)) else (none))) else (none)) else (none))) else (none)) else (none))) else (none)) else (none))) else (none)) else (none))) else (none))) = some r := by rw [if_pos rfl] at H; exact H
  clear H
  have H := H1
  clear H1
  replace H := Option.bind_eq_some_iff.mp H
  obtain ⟨t276, A40, H⟩ := H
  replace H : (if t276.size + 1 ≤ 9223372036854775807 then ((lockkeeperref1_Num.f k a0_1).bind fun t277 => (if (t276 ++ (⟨#[32]⟩ : ByteArray)).size + t277.size ≤ 9223372036854775807 then (if ((t276 ++ (⟨#[32]⟩ : ByteArray)) ++ t277).size + 1 ≤ 9223372036854775807 then ((lockkeeperref24_Name.f a0_2).bind fun t278 => (if (((t276 ++ (⟨#[32]⟩ : ByteArray)) ++ t277) ++ (⟨#[32]⟩ : ByteArray)).size + t278.size ≤ 9223372036854775807 then (if ((((t276 ++ (⟨#[32]⟩ : ByteArray)) ++ t277) ++ (⟨#[32]⟩ : ByteArray)) ++ t278).size + 1 ≤ 9223372036854775807 then ((lockkeeperref24_num.f k a0_3).bind fun t279 => (if (((((t276 ++ (⟨#[32]⟩ : ByteArray)) ++ t277) ++ (⟨#[32]⟩ : ByteArray)) ++ t278) ++ (⟨#[32]⟩ : ByteArray)).size + t279.size ≤ 9223372036854775807 then (if ((((((t276 ++ (⟨#[32]⟩ : ByteArray)) ++ t277) ++ (⟨#[32]⟩ : ByteArray)) ++ t278) ++ (⟨#[32]⟩ : ByteArray)) ++ t279).size + 1 ≤ 9223372036854775807 then ((lockkeeperref24_num.f k a0_4).bind fun t280 => (if (((((((t276 ++ (⟨#[32]⟩ : ByteArray)) ++ t277) ++ (⟨#[32]⟩ : ByteArray)) ++ t278) ++ (⟨#[32]⟩ : ByteArray)) ++ t279) ++ (⟨#[32]⟩ : ByteArray)).size + t280.size ≤ 9223372036854775807 then (if ((((((((t276 ++ (⟨#[32]⟩ : ByteArray)) ++ t277) ++ (⟨#[32]⟩ : ByteArray)) ++ t278) ++ (⟨#[32]⟩ : ByteArray)) ++ t279) ++ (⟨#[32]⟩ : ByteArray)) ++ t280).size + 1 ≤ 9223372036854775807 then ((lockkeeperref24_num.f k a0_5).bind fun t281 => (if (((((((((t276 ++ (⟨#[32]⟩ : ByteArray)) ++ t277) ++ (⟨#[32]⟩ : ByteArray)) ++ t278) ++ (⟨#[32]⟩ : ByteArray)) ++ t279) ++ (⟨#[32]⟩ : ByteArray)) ++ t280) ++ (⟨#[32]⟩ : ByteArray)).size + t281.size ≤ 9223372036854775807 then (if ((((((((((t276 ++ (⟨#[32]⟩ : ByteArray)) ++ t277) ++ (⟨#[32]⟩ : ByteArray)) ++ t278) ++ (⟨#[32]⟩ : ByteArray)) ++ t279) ++ (⟨#[32]⟩ : ByteArray)) ++ t280) ++ (⟨#[32]⟩ : ByteArray)) ++ t281).size + 1 ≤ 9223372036854775807 then ((lockkeeperref24_num.f k a0_6).bind fun t282 => (if (((((((((((t276 ++ (⟨#[32]⟩ : ByteArray)) ++ t277) ++ (⟨#[32]⟩ : ByteArray)) ++ t278) ++ (⟨#[32]⟩ : ByteArray)) ++ t279) ++ (⟨#[32]⟩ : ByteArray)) ++ t280) ++ (⟨#[32]⟩ : ByteArray)) ++ t281) ++ (⟨#[32]⟩ : ByteArray)).size + t282.size ≤ 9223372036854775807 then (some ((((((((((((t276 ++ (⟨#[32]⟩ : ByteArray)) ++ t277) ++ (⟨#[32]⟩ : ByteArray)) ++ t278) ++ (⟨#[32]⟩ : ByteArray)) ++ t279) ++ (⟨#[32]⟩ : ByteArray)) ++ t280) ++ (⟨#[32]⟩ : ByteArray)) ++ t281) ++ (⟨#[32]⟩ : ByteArray)) ++ t282)) else (none))) else (none)) else (none))) else (none)) else (none))) else (none)) else (none))) else (none)) else (none))) else (none)) else (none))) else (none)) = some r := H
  have A4 := Aside0.mk A40
  clear A40
  by_cases c5 : t276.size + 1 ≤ 9223372036854775807
  ·rw [if_pos c5] at H
   have c5b0 := eq_true c5
   have c5b1 : decide (t276.size + 1 ≤ 9223372036854775807) = true := decide_eq_true c5
   try have c5b2 : (9223372036854775807 < t276.size + 1) = False := eq_false (Nat.not_lt.2 c5)
   replace H := Option.bind_eq_some_iff.mp H
   obtain ⟨t277, A60, H⟩ := H
   replace H : (if (t276 ++ (⟨#[32]⟩ : ByteArray)).size + t277.size ≤ 9223372036854775807 then (if ((t276 ++ (⟨#[32]⟩ : ByteArray)) ++ t277).size + 1 ≤ 9223372036854775807 then ((lockkeeperref24_Name.f a0_2).bind fun t278 => (if (((t276 ++ (⟨#[32]⟩ : ByteArray)) ++ t277) ++ (⟨#[32]⟩ : ByteArray)).size + t278.size ≤ 9223372036854775807 then (if ((((t276 ++ (⟨#[32]⟩ : ByteArray)) ++ t277) ++ (⟨#[32]⟩ : ByteArray)) ++ t278).size + 1 ≤ 9223372036854775807 then ((lockkeeperref24_num.f k a0_3).bind fun t279 => (if (((((t276 ++ (⟨#[32]⟩ : ByteArray)) ++ t277) ++ (⟨#[32]⟩ : ByteArray)) ++ t278) ++ (⟨#[32]⟩ : ByteArray)).size + t279.size ≤ 9223372036854775807 then (if ((((((t276 ++ (⟨#[32]⟩ : ByteArray)) ++ t277) ++ (⟨#[32]⟩ : ByteArray)) ++ t278) ++ (⟨#[32]⟩ : ByteArray)) ++ t279).size + 1 ≤ 9223372036854775807 then ((lockkeeperref24_num.f k a0_4).bind fun t280 => (if (((((((t276 ++ (⟨#[32]⟩ : ByteArray)) ++ t277) ++ (⟨#[32]⟩ : ByteArray)) ++ t278) ++ (⟨#[32]⟩ : ByteArray)) ++ t279) ++ (⟨#[32]⟩ : ByteArray)).size + t280.size ≤ 9223372036854775807 then (if ((((((((t276 ++ (⟨#[32]⟩ : ByteArray)) ++ t277) ++ (⟨#[32]⟩ : ByteArray)) ++ t278) ++ (⟨#[32]⟩ : ByteArray)) ++ t279) ++ (⟨#[32]⟩ : ByteArray)) ++ t280).size + 1 ≤ 9223372036854775807 then ((lockkeeperref24_num.f k a0_5).bind fun t281 => (if (((((((((t276 ++ (⟨#[32]⟩ : ByteArray)) ++ t277) ++ (⟨#[32]⟩ : ByteArray)) ++ t278) ++ (⟨#[32]⟩ : ByteArray)) ++ t279) ++ (⟨#[32]⟩ : ByteArray)) ++ t280) ++ (⟨#[32]⟩ : ByteArray)).size + t281.size ≤ 9223372036854775807 then (if ((((((((((t276 ++ (⟨#[32]⟩ : ByteArray)) ++ t277) ++ (⟨#[32]⟩ : ByteArray)) ++ t278) ++ (⟨#[32]⟩ : ByteArray)) ++ t279) ++ (⟨#[32]⟩ : ByteArray)) ++ t280) ++ (⟨#[32]⟩ : ByteArray)) ++ t281).size + 1 ≤ 9223372036854775807 then ((lockkeeperref24_num.f k a0_6).bind fun t282 => (if (((((((((((t276 ++ (⟨#[32]⟩ : ByteArray)) ++ t277) ++ (⟨#[32]⟩ : ByteArray)) ++ t278) ++ (⟨#[32]⟩ : ByteArray)) ++ t279) ++ (⟨#[32]⟩ : ByteArray)) ++ t280) ++ (⟨#[32]⟩ : ByteArray)) ++ t281) ++ (⟨#[32]⟩ : ByteArray)).size + t282.size ≤ 9223372036854775807 then (some ((((((((((((t276 ++ (⟨#[32]⟩ : ByteArray)) ++ t277) ++ (⟨#[32]⟩ : ByteArray)) ++ t278) ++ (⟨#[32]⟩ : ByteArray)) ++ t279) ++ (⟨#[32]⟩ : ByteArray)) ++ t280) ++ (⟨#[32]⟩ : ByteArray)) ++ t281) ++ (⟨#[32]⟩ : ByteArray)) ++ t282)) else (none))) else (none)) else (none))) else (none)) else (none))) else (none)) else (none))) else (none)) else (none))) else (none)) else (none)) = some r := H
   have A6 := Aside0.mk A60
   clear A60
   by_cases c7 : (t276 ++ (⟨#[32]⟩ : ByteArray)).size + t277.size ≤ 9223372036854775807
   ·rw [if_pos c7] at H
    try (have c7b5 := c7; simp only [ByteArray.size_append, Int.natCast_add] at c7b5)
    have c7b0 := eq_true c7
    have c7b1 : decide ((t276 ++ (⟨#[32]⟩ : ByteArray)).size + t277.size ≤ 9223372036854775807) = true := decide_eq_true c7
    try have c7b2 : (9223372036854775807 < (t276 ++ (⟨#[32]⟩ : ByteArray)).size + t277.size) = False := eq_false (Nat.not_lt.2 c7)
    try have c7b3 : (9223372036854775807 < t276.size + 1 + t277.size) = False := eq_false (Nat.not_lt.2 (by have z_ := c7; simp only [ByteArray.size_append] at z_; first | exact z_ | simpa using z_))
    by_cases c8 : ((t276 ++ (⟨#[32]⟩ : ByteArray)) ++ t277).size + 1 ≤ 9223372036854775807
    ·rw [if_pos c8] at H
     try (have c8b5 := c8; simp only [ByteArray.size_append, Int.natCast_add] at c8b5)
     have c8b0 := eq_true c8
     have c8b1 : decide (((t276 ++ (⟨#[32]⟩ : ByteArray)) ++ t277).size + 1 ≤ 9223372036854775807) = true := decide_eq_true c8
     try have c8b2 : (9223372036854775807 < ((t276 ++ (⟨#[32]⟩ : ByteArray)) ++ t277).size + 1) = False := eq_false (Nat.not_lt.2 c8)
     try have c8b3 : (9223372036854775807 < t276.size + 1 + t277.size + 1) = False := eq_false (Nat.not_lt.2 (by have z_ := c8; simp only [ByteArray.size_append] at z_; first | exact z_ | simpa using z_))
     replace H := Option.bind_eq_some_iff.mp H
     obtain ⟨t278, A90, H⟩ := H
     replace H : (if (((t276 ++ (⟨#[32]⟩ : ByteArray)) ++ t277) ++ (⟨#[32]⟩ : ByteArray)).size + t278.size ≤ 9223372036854775807 then (if ((((t276 ++ (⟨#[32]⟩ : ByteArray)) ++ t277) ++ (⟨#[32]⟩ : ByteArray)) ++ t278).size + 1 ≤ 9223372036854775807 then ((lockkeeperref24_num.f k a0_3).bind fun t279 => (if (((((t276 ++ (⟨#[32]⟩ : ByteArray)) ++ t277) ++ (⟨#[32]⟩ : ByteArray)) ++ t278) ++ (⟨#[32]⟩ : ByteArray)).size + t279.size ≤ 9223372036854775807 then (if ((((((t276 ++ (⟨#[32]⟩ : ByteArray)) ++ t277) ++ (⟨#[32]⟩ : ByteArray)) ++ t278) ++ (⟨#[32]⟩ : ByteArray)) ++ t279).size + 1 ≤ 9223372036854775807 then ((lockkeeperref24_num.f k a0_4).bind fun t280 => (if (((((((t276 ++ (⟨#[32]⟩ : ByteArray)) ++ t277) ++ (⟨#[32]⟩ : ByteArray)) ++ t278) ++ (⟨#[32]⟩ : ByteArray)) ++ t279) ++ (⟨#[32]⟩ : ByteArray)).size + t280.size ≤ 9223372036854775807 then (if ((((((((t276 ++ (⟨#[32]⟩ : ByteArray)) ++ t277) ++ (⟨#[32]⟩ : ByteArray)) ++ t278) ++ (⟨#[32]⟩ : ByteArray)) ++ t279) ++ (⟨#[32]⟩ : ByteArray)) ++ t280).size + 1 ≤ 9223372036854775807 then ((lockkeeperref24_num.f k a0_5).bind fun t281 => (if (((((((((t276 ++ (⟨#[32]⟩ : ByteArray)) ++ t277) ++ (⟨#[32]⟩ : ByteArray)) ++ t278) ++ (⟨#[32]⟩ : ByteArray)) ++ t279) ++ (⟨#[32]⟩ : ByteArray)) ++ t280) ++ (⟨#[32]⟩ : ByteArray)).size + t281.size ≤ 9223372036854775807 then (if ((((((((((t276 ++ (⟨#[32]⟩ : ByteArray)) ++ t277) ++ (⟨#[32]⟩ : ByteArray)) ++ t278) ++ (⟨#[32]⟩ : ByteArray)) ++ t279) ++ (⟨#[32]⟩ : ByteArray)) ++ t280) ++ (⟨#[32]⟩ : ByteArray)) ++ t281).size + 1 ≤ 9223372036854775807 then ((lockkeeperref24_num.f k a0_6).bind fun t282 => (if (((((((((((t276 ++ (⟨#[32]⟩ : ByteArray)) ++ t277) ++ (⟨#[32]⟩ : ByteArray)) ++ t278) ++ (⟨#[32]⟩ : ByteArray)) ++ t279) ++ (⟨#[32]⟩ : ByteArray)) ++ t280) ++ (⟨#[32]⟩ : ByteArray)) ++ t281) ++ (⟨#[32]⟩ : ByteArray)).size + t282.size ≤ 9223372036854775807 then (some ((((((((((((t276 ++ (⟨#[32]⟩ : ByteArray)) ++ t277) ++ (⟨#[32]⟩ : ByteArray)) ++ t278) ++ (⟨#[32]⟩ : ByteArray)) ++ t279) ++ (⟨#[32]⟩ : ByteArray)) ++ t280) ++ (⟨#[32]⟩ : ByteArray)) ++ t281) ++ (⟨#[32]⟩ : ByteArray)) ++ t282)) else (none))) else (none)) else (none))) else (none)) else (none))) else (none)) else (none))) else (none)) else (none)) = some r := H
     have A9 := Aside0.mk A90
     clear A90
     by_cases c10 : (((t276 ++ (⟨#[32]⟩ : ByteArray)) ++ t277) ++ (⟨#[32]⟩ : ByteArray)).size + t278.size ≤ 9223372036854775807
     ·rw [if_pos c10] at H
      try (have c10b5 := c10; simp only [ByteArray.size_append, Int.natCast_add] at c10b5)
      have c10b0 := eq_true c10
      have c10b1 : decide ((((t276 ++ (⟨#[32]⟩ : ByteArray)) ++ t277) ++ (⟨#[32]⟩ : ByteArray)).size + t278.size ≤ 9223372036854775807) = true := decide_eq_true c10
      try have c10b2 : (9223372036854775807 < (((t276 ++ (⟨#[32]⟩ : ByteArray)) ++ t277) ++ (⟨#[32]⟩ : ByteArray)).size + t278.size) = False := eq_false (Nat.not_lt.2 c10)
      try have c10b3 : (9223372036854775807 < t276.size + 1 + t277.size + 1 + t278.size) = False := eq_false (Nat.not_lt.2 (by have z_ := c10; simp only [ByteArray.size_append] at z_; first | exact z_ | simpa using z_))
      by_cases c11 : ((((t276 ++ (⟨#[32]⟩ : ByteArray)) ++ t277) ++ (⟨#[32]⟩ : ByteArray)) ++ t278).size + 1 ≤ 9223372036854775807
      ·rw [if_pos c11] at H
       try (have c11b5 := c11; simp only [ByteArray.size_append, Int.natCast_add] at c11b5)
       have c11b0 := eq_true c11
       have c11b1 : decide (((((t276 ++ (⟨#[32]⟩ : ByteArray)) ++ t277) ++ (⟨#[32]⟩ : ByteArray)) ++ t278).size + 1 ≤ 9223372036854775807) = true := decide_eq_true c11
       try have c11b2 : (9223372036854775807 < ((((t276 ++ (⟨#[32]⟩ : ByteArray)) ++ t277) ++ (⟨#[32]⟩ : ByteArray)) ++ t278).size + 1) = False := eq_false (Nat.not_lt.2 c11)
       try have c11b3 : (9223372036854775807 < t276.size + 1 + t277.size + 1 + t278.size + 1) = False := eq_false (Nat.not_lt.2 (by have z_ := c11; simp only [ByteArray.size_append] at z_; first | exact z_ | simpa using z_))
       replace H := Option.bind_eq_some_iff.mp H
       obtain ⟨t279, A120, H⟩ := H
       replace H : (if (((((t276 ++ (⟨#[32]⟩ : ByteArray)) ++ t277) ++ (⟨#[32]⟩ : ByteArray)) ++ t278) ++ (⟨#[32]⟩ : ByteArray)).size + t279.size ≤ 9223372036854775807 then (if ((((((t276 ++ (⟨#[32]⟩ : ByteArray)) ++ t277) ++ (⟨#[32]⟩ : ByteArray)) ++ t278) ++ (⟨#[32]⟩ : ByteArray)) ++ t279).size + 1 ≤ 9223372036854775807 then ((lockkeeperref24_num.f k a0_4).bind fun t280 => (if (((((((t276 ++ (⟨#[32]⟩ : ByteArray)) ++ t277) ++ (⟨#[32]⟩ : ByteArray)) ++ t278) ++ (⟨#[32]⟩ : ByteArray)) ++ t279) ++ (⟨#[32]⟩ : ByteArray)).size + t280.size ≤ 9223372036854775807 then (if ((((((((t276 ++ (⟨#[32]⟩ : ByteArray)) ++ t277) ++ (⟨#[32]⟩ : ByteArray)) ++ t278) ++ (⟨#[32]⟩ : ByteArray)) ++ t279) ++ (⟨#[32]⟩ : ByteArray)) ++ t280).size + 1 ≤ 9223372036854775807 then ((lockkeeperref24_num.f k a0_5).bind fun t281 => (if (((((((((t276 ++ (⟨#[32]⟩ : ByteArray)) ++ t277) ++ (⟨#[32]⟩ : ByteArray)) ++ t278) ++ (⟨#[32]⟩ : ByteArray)) ++ t279) ++ (⟨#[32]⟩ : ByteArray)) ++ t280) ++ (⟨#[32]⟩ : ByteArray)).size + t281.size ≤ 9223372036854775807 then (if ((((((((((t276 ++ (⟨#[32]⟩ : ByteArray)) ++ t277) ++ (⟨#[32]⟩ : ByteArray)) ++ t278) ++ (⟨#[32]⟩ : ByteArray)) ++ t279) ++ (⟨#[32]⟩ : ByteArray)) ++ t280) ++ (⟨#[32]⟩ : ByteArray)) ++ t281).size + 1 ≤ 9223372036854775807 then ((lockkeeperref24_num.f k a0_6).bind fun t282 => (if (((((((((((t276 ++ (⟨#[32]⟩ : ByteArray)) ++ t277) ++ (⟨#[32]⟩ : ByteArray)) ++ t278) ++ (⟨#[32]⟩ : ByteArray)) ++ t279) ++ (⟨#[32]⟩ : ByteArray)) ++ t280) ++ (⟨#[32]⟩ : ByteArray)) ++ t281) ++ (⟨#[32]⟩ : ByteArray)).size + t282.size ≤ 9223372036854775807 then (some ((((((((((((t276 ++ (⟨#[32]⟩ : ByteArray)) ++ t277) ++ (⟨#[32]⟩ : ByteArray)) ++ t278) ++ (⟨#[32]⟩ : ByteArray)) ++ t279) ++ (⟨#[32]⟩ : ByteArray)) ++ t280) ++ (⟨#[32]⟩ : ByteArray)) ++ t281) ++ (⟨#[32]⟩ : ByteArray)) ++ t282)) else (none))) else (none)) else (none))) else (none)) else (none))) else (none)) else (none)) = some r := H
       have A12 := Aside0.mk A120
       clear A120
       by_cases c13 : (((((t276 ++ (⟨#[32]⟩ : ByteArray)) ++ t277) ++ (⟨#[32]⟩ : ByteArray)) ++ t278) ++ (⟨#[32]⟩ : ByteArray)).size + t279.size ≤ 9223372036854775807
       ·rw [if_pos c13] at H
        try (have c13b5 := c13; simp only [ByteArray.size_append, Int.natCast_add] at c13b5)
        have c13b0 := eq_true c13
        have c13b1 : decide ((((((t276 ++ (⟨#[32]⟩ : ByteArray)) ++ t277) ++ (⟨#[32]⟩ : ByteArray)) ++ t278) ++ (⟨#[32]⟩ : ByteArray)).size + t279.size ≤ 9223372036854775807) = true := decide_eq_true c13
        try have c13b2 : (9223372036854775807 < (((((t276 ++ (⟨#[32]⟩ : ByteArray)) ++ t277) ++ (⟨#[32]⟩ : ByteArray)) ++ t278) ++ (⟨#[32]⟩ : ByteArray)).size + t279.size) = False := eq_false (Nat.not_lt.2 c13)
        try have c13b3 : (9223372036854775807 < t276.size + 1 + t277.size + 1 + t278.size + 1 + t279.size) = False := eq_false (Nat.not_lt.2 (by have z_ := c13; simp only [ByteArray.size_append] at z_; first | exact z_ | simpa using z_))
        by_cases c14 : ((((((t276 ++ (⟨#[32]⟩ : ByteArray)) ++ t277) ++ (⟨#[32]⟩ : ByteArray)) ++ t278) ++ (⟨#[32]⟩ : ByteArray)) ++ t279).size + 1 ≤ 9223372036854775807
        ·rw [if_pos c14] at H
         try (have c14b5 := c14; simp only [ByteArray.size_append, Int.natCast_add] at c14b5)
         have c14b0 := eq_true c14
         have c14b1 : decide (((((((t276 ++ (⟨#[32]⟩ : ByteArray)) ++ t277) ++ (⟨#[32]⟩ : ByteArray)) ++ t278) ++ (⟨#[32]⟩ : ByteArray)) ++ t279).size + 1 ≤ 9223372036854775807) = true := decide_eq_true c14
         try have c14b2 : (9223372036854775807 < ((((((t276 ++ (⟨#[32]⟩ : ByteArray)) ++ t277) ++ (⟨#[32]⟩ : ByteArray)) ++ t278) ++ (⟨#[32]⟩ : ByteArray)) ++ t279).size + 1) = False := eq_false (Nat.not_lt.2 c14)
         try have c14b3 : (9223372036854775807 < t276.size + 1 + t277.size + 1 + t278.size + 1 + t279.size + 1) = False := eq_false (Nat.not_lt.2 (by have z_ := c14; simp only [ByteArray.size_append] at z_; first | exact z_ | simpa using z_))
         replace H := Option.bind_eq_some_iff.mp H
         obtain ⟨t280, A150, H⟩ := H
         replace H : (if (((((((t276 ++ (⟨#[32]⟩ : ByteArray)) ++ t277) ++ (⟨#[32]⟩ : ByteArray)) ++ t278) ++ (⟨#[32]⟩ : ByteArray)) ++ t279) ++ (⟨#[32]⟩ : ByteArray)).size + t280.size ≤ 9223372036854775807 then (if ((((((((t276 ++ (⟨#[32]⟩ : ByteArray)) ++ t277) ++ (⟨#[32]⟩ : ByteArray)) ++ t278) ++ (⟨#[32]⟩ : ByteArray)) ++ t279) ++ (⟨#[32]⟩ : ByteArray)) ++ t280).size + 1 ≤ 9223372036854775807 then ((lockkeeperref24_num.f k a0_5).bind fun t281 => (if (((((((((t276 ++ (⟨#[32]⟩ : ByteArray)) ++ t277) ++ (⟨#[32]⟩ : ByteArray)) ++ t278) ++ (⟨#[32]⟩ : ByteArray)) ++ t279) ++ (⟨#[32]⟩ : ByteArray)) ++ t280) ++ (⟨#[32]⟩ : ByteArray)).size + t281.size ≤ 9223372036854775807 then (if ((((((((((t276 ++ (⟨#[32]⟩ : ByteArray)) ++ t277) ++ (⟨#[32]⟩ : ByteArray)) ++ t278) ++ (⟨#[32]⟩ : ByteArray)) ++ t279) ++ (⟨#[32]⟩ : ByteArray)) ++ t280) ++ (⟨#[32]⟩ : ByteArray)) ++ t281).size + 1 ≤ 9223372036854775807 then ((lockkeeperref24_num.f k a0_6).bind fun t282 => (if (((((((((((t276 ++ (⟨#[32]⟩ : ByteArray)) ++ t277) ++ (⟨#[32]⟩ : ByteArray)) ++ t278) ++ (⟨#[32]⟩ : ByteArray)) ++ t279) ++ (⟨#[32]⟩ : ByteArray)) ++ t280) ++ (⟨#[32]⟩ : ByteArray)) ++ t281) ++ (⟨#[32]⟩ : ByteArray)).size + t282.size ≤ 9223372036854775807 then (some ((((((((((((t276 ++ (⟨#[32]⟩ : ByteArray)) ++ t277) ++ (⟨#[32]⟩ : ByteArray)) ++ t278) ++ (⟨#[32]⟩ : ByteArray)) ++ t279) ++ (⟨#[32]⟩ : ByteArray)) ++ t280) ++ (⟨#[32]⟩ : ByteArray)) ++ t281) ++ (⟨#[32]⟩ : ByteArray)) ++ t282)) else (none))) else (none)) else (none))) else (none)) else (none)) = some r := H
         have A15 := Aside0.mk A150
         clear A150
         by_cases c16 : (((((((t276 ++ (⟨#[32]⟩ : ByteArray)) ++ t277) ++ (⟨#[32]⟩ : ByteArray)) ++ t278) ++ (⟨#[32]⟩ : ByteArray)) ++ t279) ++ (⟨#[32]⟩ : ByteArray)).size + t280.size ≤ 9223372036854775807
         ·rw [if_pos c16] at H
          try (have c16b5 := c16; simp only [ByteArray.size_append, Int.natCast_add] at c16b5)
          have c16b0 := eq_true c16
          have c16b1 : decide ((((((((t276 ++ (⟨#[32]⟩ : ByteArray)) ++ t277) ++ (⟨#[32]⟩ : ByteArray)) ++ t278) ++ (⟨#[32]⟩ : ByteArray)) ++ t279) ++ (⟨#[32]⟩ : ByteArray)).size + t280.size ≤ 9223372036854775807) = true := decide_eq_true c16
          try have c16b2 : (9223372036854775807 < (((((((t276 ++ (⟨#[32]⟩ : ByteArray)) ++ t277) ++ (⟨#[32]⟩ : ByteArray)) ++ t278) ++ (⟨#[32]⟩ : ByteArray)) ++ t279) ++ (⟨#[32]⟩ : ByteArray)).size + t280.size) = False := eq_false (Nat.not_lt.2 c16)
          try have c16b3 : (9223372036854775807 < t276.size + 1 + t277.size + 1 + t278.size + 1 + t279.size + 1 + t280.size) = False := eq_false (Nat.not_lt.2 (by have z_ := c16; simp only [ByteArray.size_append] at z_; first | exact z_ | simpa using z_))
          by_cases c17 : ((((((((t276 ++ (⟨#[32]⟩ : ByteArray)) ++ t277) ++ (⟨#[32]⟩ : ByteArray)) ++ t278) ++ (⟨#[32]⟩ : ByteArray)) ++ t279) ++ (⟨#[32]⟩ : ByteArray)) ++ t280).size + 1 ≤ 9223372036854775807
          ·rw [if_pos c17] at H
           try (have c17b5 := c17; simp only [ByteArray.size_append, Int.natCast_add] at c17b5)
           have c17b0 := eq_true c17
           have c17b1 : decide (((((((((t276 ++ (⟨#[32]⟩ : ByteArray)) ++ t277) ++ (⟨#[32]⟩ : ByteArray)) ++ t278) ++ (⟨#[32]⟩ : ByteArray)) ++ t279) ++ (⟨#[32]⟩ : ByteArray)) ++ t280).size + 1 ≤ 9223372036854775807) = true := decide_eq_true c17
           try have c17b2 : (9223372036854775807 < ((((((((t276 ++ (⟨#[32]⟩ : ByteArray)) ++ t277) ++ (⟨#[32]⟩ : ByteArray)) ++ t278) ++ (⟨#[32]⟩ : ByteArray)) ++ t279) ++ (⟨#[32]⟩ : ByteArray)) ++ t280).size + 1) = False := eq_false (Nat.not_lt.2 c17)
           try have c17b3 : (9223372036854775807 < t276.size + 1 + t277.size + 1 + t278.size + 1 + t279.size + 1 + t280.size + 1) = False := eq_false (Nat.not_lt.2 (by have z_ := c17; simp only [ByteArray.size_append] at z_; first | exact z_ | simpa using z_))
           replace H := Option.bind_eq_some_iff.mp H
           obtain ⟨t281, A180, H⟩ := H
           replace H : (if (((((((((t276 ++ (⟨#[32]⟩ : ByteArray)) ++ t277) ++ (⟨#[32]⟩ : ByteArray)) ++ t278) ++ (⟨#[32]⟩ : ByteArray)) ++ t279) ++ (⟨#[32]⟩ : ByteArray)) ++ t280) ++ (⟨#[32]⟩ : ByteArray)).size + t281.size ≤ 9223372036854775807 then (if ((((((((((t276 ++ (⟨#[32]⟩ : ByteArray)) ++ t277) ++ (⟨#[32]⟩ : ByteArray)) ++ t278) ++ (⟨#[32]⟩ : ByteArray)) ++ t279) ++ (⟨#[32]⟩ : ByteArray)) ++ t280) ++ (⟨#[32]⟩ : ByteArray)) ++ t281).size + 1 ≤ 9223372036854775807 then ((lockkeeperref24_num.f k a0_6).bind fun t282 => (if (((((((((((t276 ++ (⟨#[32]⟩ : ByteArray)) ++ t277) ++ (⟨#[32]⟩ : ByteArray)) ++ t278) ++ (⟨#[32]⟩ : ByteArray)) ++ t279) ++ (⟨#[32]⟩ : ByteArray)) ++ t280) ++ (⟨#[32]⟩ : ByteArray)) ++ t281) ++ (⟨#[32]⟩ : ByteArray)).size + t282.size ≤ 9223372036854775807 then (some ((((((((((((t276 ++ (⟨#[32]⟩ : ByteArray)) ++ t277) ++ (⟨#[32]⟩ : ByteArray)) ++ t278) ++ (⟨#[32]⟩ : ByteArray)) ++ t279) ++ (⟨#[32]⟩ : ByteArray)) ++ t280) ++ (⟨#[32]⟩ : ByteArray)) ++ t281) ++ (⟨#[32]⟩ : ByteArray)) ++ t282)) else (none))) else (none)) else (none)) = some r := H
           have A18 := Aside0.mk A180
           clear A180
           by_cases c19 : (((((((((t276 ++ (⟨#[32]⟩ : ByteArray)) ++ t277) ++ (⟨#[32]⟩ : ByteArray)) ++ t278) ++ (⟨#[32]⟩ : ByteArray)) ++ t279) ++ (⟨#[32]⟩ : ByteArray)) ++ t280) ++ (⟨#[32]⟩ : ByteArray)).size + t281.size ≤ 9223372036854775807
           ·rw [if_pos c19] at H
            try (have c19b5 := c19; simp only [ByteArray.size_append, Int.natCast_add] at c19b5)
            have c19b0 := eq_true c19
            have c19b1 : decide ((((((((((t276 ++ (⟨#[32]⟩ : ByteArray)) ++ t277) ++ (⟨#[32]⟩ : ByteArray)) ++ t278) ++ (⟨#[32]⟩ : ByteArray)) ++ t279) ++ (⟨#[32]⟩ : ByteArray)) ++ t280) ++ (⟨#[32]⟩ : ByteArray)).size + t281.size ≤ 9223372036854775807) = true := decide_eq_true c19
            try have c19b2 : (9223372036854775807 < (((((((((t276 ++ (⟨#[32]⟩ : ByteArray)) ++ t277) ++ (⟨#[32]⟩ : ByteArray)) ++ t278) ++ (⟨#[32]⟩ : ByteArray)) ++ t279) ++ (⟨#[32]⟩ : ByteArray)) ++ t280) ++ (⟨#[32]⟩ : ByteArray)).size + t281.size) = False := eq_false (Nat.not_lt.2 c19)
            try have c19b3 : (9223372036854775807 < t276.size + 1 + t277.size + 1 + t278.size + 1 + t279.size + 1 + t280.size + 1 + t281.size) = False := eq_false (Nat.not_lt.2 (by have z_ := c19; simp only [ByteArray.size_append] at z_; first | exact z_ | simpa using z_))
            by_cases c20 : ((((((((((t276 ++ (⟨#[32]⟩ : ByteArray)) ++ t277) ++ (⟨#[32]⟩ : ByteArray)) ++ t278) ++ (⟨#[32]⟩ : ByteArray)) ++ t279) ++ (⟨#[32]⟩ : ByteArray)) ++ t280) ++ (⟨#[32]⟩ : ByteArray)) ++ t281).size + 1 ≤ 9223372036854775807
            ·rw [if_pos c20] at H
             try (have c20b5 := c20; simp only [ByteArray.size_append, Int.natCast_add] at c20b5)
             have c20b0 := eq_true c20
             have c20b1 : decide (((((((((((t276 ++ (⟨#[32]⟩ : ByteArray)) ++ t277) ++ (⟨#[32]⟩ : ByteArray)) ++ t278) ++ (⟨#[32]⟩ : ByteArray)) ++ t279) ++ (⟨#[32]⟩ : ByteArray)) ++ t280) ++ (⟨#[32]⟩ : ByteArray)) ++ t281).size + 1 ≤ 9223372036854775807) = true := decide_eq_true c20
             try have c20b2 : (9223372036854775807 < ((((((((((t276 ++ (⟨#[32]⟩ : ByteArray)) ++ t277) ++ (⟨#[32]⟩ : ByteArray)) ++ t278) ++ (⟨#[32]⟩ : ByteArray)) ++ t279) ++ (⟨#[32]⟩ : ByteArray)) ++ t280) ++ (⟨#[32]⟩ : ByteArray)) ++ t281).size + 1) = False := eq_false (Nat.not_lt.2 c20)
             try have c20b3 : (9223372036854775807 < t276.size + 1 + t277.size + 1 + t278.size + 1 + t279.size + 1 + t280.size + 1 + t281.size + 1) = False := eq_false (Nat.not_lt.2 (by have z_ := c20; simp only [ByteArray.size_append] at z_; first | exact z_ | simpa using z_))
             replace H := Option.bind_eq_some_iff.mp H
             obtain ⟨t282, A210, H⟩ := H
             replace H : (if (((((((((((t276 ++ (⟨#[32]⟩ : ByteArray)) ++ t277) ++ (⟨#[32]⟩ : ByteArray)) ++ t278) ++ (⟨#[32]⟩ : ByteArray)) ++ t279) ++ (⟨#[32]⟩ : ByteArray)) ++ t280) ++ (⟨#[32]⟩ : ByteArray)) ++ t281) ++ (⟨#[32]⟩ : ByteArray)).size + t282.size ≤ 9223372036854775807 then (some ((((((((((((t276 ++ (⟨#[32]⟩ : ByteArray)) ++ t277) ++ (⟨#[32]⟩ : ByteArray)) ++ t278) ++ (⟨#[32]⟩ : ByteArray)) ++ t279) ++ (⟨#[32]⟩ : ByteArray)) ++ t280) ++ (⟨#[32]⟩ : ByteArray)) ++ t281) ++ (⟨#[32]⟩ : ByteArray)) ++ t282)) else (none)) = some r := H
             have A21 := Aside0.mk A210
             clear A210
             by_cases c22 : (((((((((((t276 ++ (⟨#[32]⟩ : ByteArray)) ++ t277) ++ (⟨#[32]⟩ : ByteArray)) ++ t278) ++ (⟨#[32]⟩ : ByteArray)) ++ t279) ++ (⟨#[32]⟩ : ByteArray)) ++ t280) ++ (⟨#[32]⟩ : ByteArray)) ++ t281) ++ (⟨#[32]⟩ : ByteArray)).size + t282.size ≤ 9223372036854775807
             ·rw [if_pos c22] at H
              try (have c22b5 := c22; simp only [ByteArray.size_append, Int.natCast_add] at c22b5)
              have c22b0 := eq_true c22
              have c22b1 : decide ((((((((((((t276 ++ (⟨#[32]⟩ : ByteArray)) ++ t277) ++ (⟨#[32]⟩ : ByteArray)) ++ t278) ++ (⟨#[32]⟩ : ByteArray)) ++ t279) ++ (⟨#[32]⟩ : ByteArray)) ++ t280) ++ (⟨#[32]⟩ : ByteArray)) ++ t281) ++ (⟨#[32]⟩ : ByteArray)).size + t282.size ≤ 9223372036854775807) = true := decide_eq_true c22
              try have c22b2 : (9223372036854775807 < (((((((((((t276 ++ (⟨#[32]⟩ : ByteArray)) ++ t277) ++ (⟨#[32]⟩ : ByteArray)) ++ t278) ++ (⟨#[32]⟩ : ByteArray)) ++ t279) ++ (⟨#[32]⟩ : ByteArray)) ++ t280) ++ (⟨#[32]⟩ : ByteArray)) ++ t281) ++ (⟨#[32]⟩ : ByteArray)).size + t282.size) = False := eq_false (Nat.not_lt.2 c22)
              try have c22b3 : (9223372036854775807 < t276.size + 1 + t277.size + 1 + t278.size + 1 + t279.size + 1 + t280.size + 1 + t281.size + 1 + t282.size) = False := eq_false (Nat.not_lt.2 (by have z_ := c22; simp only [ByteArray.size_append] at z_; first | exact z_ | simpa using z_))
              obtain rfl := Option.some.inj H
              go_enter Tryd.func18, Tryd.ntmps18
              try go_wp2_with (first | ((with_reducible refine gate_dst (N := 1) rfl ?_); refine box_event ?hg (N := 1) ?hd (cs := #[.int .i64 a0_0, .int .u64 a0_1, .int .i64 a0_2, .int .i64 a0_3, .int .i64 a0_4, .int .i64 a0_5, .int .i64 a0_6]) (t := 24) ?hr ?_; (case hd => rfl); (case hg => rfl); (case hr => first | (go_simp; done) | (go_simp; rfl)); intro gb274 hg w23 hbox hb; have n0_ := Aside0.mk (below_step (by repeat (first | (with_reducible first | exact HB.out | apply below_alloc | apply pw_below_drewN | apply below_drew1) | exact HB.out)) hb); have n1_ := Aside0.mk (hbox); have n2_ := Aside0.mk ((by rw [hg]; exact (below_size (by repeat (first | (with_reducible first | exact HB.out | apply below_alloc | apply pw_below_drewN | apply below_drew1) | exact HB.out))) : w.heap.size ≤ gb274)); have n3_ := Aside0.mk ((by rw [hg]; exact (below_size (by repeat (first | (with_reducible first | exact HB.out | apply below_alloc | apply pw_below_drewN | apply below_drew1) | exact HB.out))) : w.heap.size ≤ gb274)); clear HB; have HB := n0_; have BK274 := n1_; have GW274 := n2_; have GE274 := n3_; clear n0_ n1_ n2_ n3_; clear hb hbox hg; have hcz24_0 : w23.cell? ⟨gb274, 0, none⟩ = some (.int .i64 a0_0) := (blk_cell BK274.out 0).trans rfl; have hcz24_1 : w23.cell? ⟨gb274, 1, none⟩ = some (.int .u64 a0_1) := (blk_cell BK274.out 1).trans rfl; have hcz24_2 : w23.cell? ⟨gb274, 2, none⟩ = some (.int .i64 a0_2) := (blk_cell BK274.out 2).trans rfl; have hcz24_3 : w23.cell? ⟨gb274, 3, none⟩ = some (.int .i64 a0_3) := (blk_cell BK274.out 3).trans rfl; have hcz24_4 : w23.cell? ⟨gb274, 4, none⟩ = some (.int .i64 a0_4) := (blk_cell BK274.out 4).trans rfl; have hcz24_5 : w23.cell? ⟨gb274, 5, none⟩ = some (.int .i64 a0_5) := (blk_cell BK274.out 5).trans rfl; have hcz24_6 : w23.cell? ⟨gb274, 6, none⟩ = some (.int .i64 a0_6) := (blk_cell BK274.out 6).trans rfl; have hfz24_0 := blk_frozen BK274.out 0; have hfz24_1 := blk_frozen BK274.out 1; have hfz24_2 := blk_frozen BK274.out 2; have hfz24_3 := blk_frozen BK274.out 3; have hfz24_4 := blk_frozen BK274.out 4; have hfz24_5 := blk_frozen BK274.out 5; have hfz24_6 := blk_frozen BK274.out 6) | ((with_reducible refine gate_callee (f := 17) rfl ?_); refine goesL_ (some 4) rfl rfl Tryd.func17 (by kernel_rfl) rfl #[.agg #[.int .i64 a0_0, .int .u64 a0_1, .int .i64 a0_2, .int .i64 a0_3, .int .i64 a0_4, .int .i64 a0_5, .int .i64 a0_6]] rfl (by (try simp only [List.map_toArray, List.map_cons, List.map_nil]); first | done | rfl | (simp only [List.length_drop, List.length_take]; rfl)) ?_; (with_reducible refine (lockkeeperref24_Check.calls a0_0 a0_1 a0_2 a0_3 a0_4 a0_5 a0_6 true _ A2.out).mono ?_); rintro e w25 ⟨rfl, hb⟩; refine ⟨_, rfl, ?_⟩; have n0_ := Aside0.mk (blk_below (g := gb274) (o := .cells #[.int .i64 a0_0, .int .u64 a0_1, .int .i64 a0_2, .int .i64 a0_3, .int .i64 a0_4, .int .i64 a0_5, .int .i64 a0_6] 24 (0, 0)) (by (with_reducible repeat (first | refine blk_drewN ?_ _ | refine blk_drew ?_ | refine blk_alloc ?_ _)); exact BK274.out) hb); have n1_ := Aside0.mk (below_step (by repeat (first | (with_reducible first | exact HB.out | apply below_alloc | apply pw_below_drewN | apply below_drew1 | refine below_set ?_ GE274.out) | exact HB.out)) hb); clear BK274; clear HB; have BK274 := n0_; have HB := n1_; clear n0_ n1_; (try clear hb); (try clear hb2); (try clear hk); (try clear hi)))
              have n0_ := Aside0.mk (blk_drew BK274.out)
              have n1_ := Aside0.mk (below_drew1 HB.out)
              clear BK274
              clear HB
              have BK274 := n0_
              have HB := n1_
              clear n0_ n1_
              refine start_ (n := 34) (S := fun w' => w'.cell? ⟨gb274, 0, none⟩ = some (.int .i64 a0_0) ∧ w'.cell? ⟨gb274, 1, none⟩ = some (.int .u64 a0_1) ∧ w'.cell? ⟨gb274, 2, none⟩ = some (.int .i64 a0_2) ∧ w'.cell? ⟨gb274, 3, none⟩ = some (.int .i64 a0_3) ∧ w'.cell? ⟨gb274, 4, none⟩ = some (.int .i64 a0_4) ∧ w'.cell? ⟨gb274, 5, none⟩ = some (.int .i64 a0_5) ∧ w'.cell? ⟨gb274, 6, none⟩ = some (.int .i64 a0_6)) (ds := []) #[false, false, false, false, false, false, false, false, false, false, false, false, false, false, false, false, false, false, false, false, false, false, false, false, false, false, false, false, false, false, false, false, false, false] (by kernel_rfl) rfl rfl ⟨(blk_cell BK274.out 0).trans rfl, (blk_cell BK274.out 1).trans rfl, (blk_cell BK274.out 2).trans rfl, (blk_cell BK274.out 3).trans rfl, (blk_cell BK274.out 4).trans rfl, (blk_cell BK274.out 5).trans rfl, (blk_cell BK274.out 6).trans rfl⟩ (fun hHeld => ?_); refine with_tabW lockkeeperref24_Show.tab3 lockkeeperref24_Show.bits3 (fun HT_ HW_ => ?_)
              generalize w25.drew = w26 at BK274 HB hHeld ⊢
              refine pure_ (i := 0) (N := some 6) (v := ?_) (a' := ?_) #[true, false, false, false, false, false, false, false, false, false, false, false, false, false, false, false, false, false, false, false, false, false, false, false, false, false, false, false, false, false, false, false, false, false] rfl rfl (any_of HT_.out (by kernel_rfl)) (fun _ _ _ h => h) (Or.inl ⟨by rfl, ?_⟩) ?_ ?_
              rotate_left
              ·intro w'
               go_simp
               with_reducible rfl
              rotate_left
              ·simp only [Act.put, List.setIfInBounds_toArray, List.set_cons_zero, List.set_cons_succ, i64_w, i32_w]
               rfl
              refine pure_ (i := 4) (N := some 10) (v := ?_) (a' := ?_) #[true, false, false, false, true, false, false, false, false, false, false, false, false, false, false, false, false, false, false, false, false, false, false, false, false, false, false, false, false, false, false, false, false, false] rfl rfl (any_of HT_.out (by kernel_rfl)) (fun _ _ _ h => h) (Or.inl ⟨by rfl, ?_⟩) ?_ ?_
              rotate_left
              ·intro w'
               go_simp
               with_reducible rfl
              rotate_left
              ·simp only [Act.put, List.setIfInBounds_toArray, List.set_cons_zero, List.set_cons_succ, i64_w, i32_w]
               rfl
              refine pure_ (i := 9) (N := some 15) (v := ?_) (a' := ?_) #[true, false, false, false, true, false, false, false, false, true, false, false, false, false, false, false, false, false, false, false, false, false, false, false, false, false, false, false, false, false, false, false, false, false] rfl rfl (any_of HT_.out (by kernel_rfl)) (fun _ _ _ h => h) (Or.inl ⟨by rfl, ?_⟩) ?_ ?_
              rotate_left
              ·intro w'
               go_simp
               with_reducible rfl
              rotate_left
              ·simp only [Act.put, List.setIfInBounds_toArray, List.set_cons_zero, List.set_cons_succ, i64_w, i32_w]
               rfl
              refine pure_ (i := 14) (N := some 20) (v := ?_) (a' := ?_) #[true, false, false, false, true, false, false, false, false, true, false, false, false, false, true, false, false, false, false, false, false, false, false, false, false, false, false, false, false, false, false, false, false, false] rfl rfl (any_of HT_.out (by kernel_rfl)) (fun _ _ _ h => h) (Or.inl ⟨by rfl, ?_⟩) ?_ ?_
              rotate_left
              ·intro w'
               go_simp
               with_reducible rfl
              rotate_left
              ·simp only [Act.put, List.setIfInBounds_toArray, List.set_cons_zero, List.set_cons_succ, i64_w, i32_w]
               rfl
              refine pure_ (i := 19) (N := some 25) (v := ?_) (a' := ?_) #[true, false, false, false, true, false, false, false, false, true, false, false, false, false, true, false, false, false, false, true, false, false, false, false, false, false, false, false, false, false, false, false, false, false] rfl rfl (any_of HT_.out (by kernel_rfl)) (fun _ _ _ h => h) (Or.inl ⟨by rfl, ?_⟩) ?_ ?_
              rotate_left
              ·intro w'
               go_simp
               with_reducible rfl
              rotate_left
              ·simp only [Act.put, List.setIfInBounds_toArray, List.set_cons_zero, List.set_cons_succ, i64_w, i32_w]
               rfl
              refine pure_ (i := 24) (N := some 30) (v := ?_) (a' := ?_) #[true, false, false, false, true, false, false, false, false, true, false, false, false, false, true, false, false, false, false, true, false, false, false, false, true, false, false, false, false, false, false, false, false, false] rfl rfl (any_of HT_.out (by kernel_rfl)) (fun _ _ _ h => h) (Or.inl ⟨by rfl, ?_⟩) ?_ ?_
              rotate_left
              ·intro w'
               go_simp
               with_reducible rfl
              rotate_left
              ·simp only [Act.put, List.setIfInBounds_toArray, List.set_cons_zero, List.set_cons_succ, i64_w, i32_w]
               rfl
              refine pure_ (i := 29) (N := some 35) (v := ?_) (a' := ?_) #[true, false, false, false, true, false, false, false, false, true, false, false, false, false, true, false, false, false, false, true, false, false, false, false, true, false, false, false, false, true, false, false, false, false] rfl rfl (any_of HT_.out (by kernel_rfl)) (fun _ _ _ h => h) (Or.inl ⟨by rfl, ?_⟩) ?_ ?_
              rotate_left
              ·intro w'
               go_simp
               with_reducible rfl
              rotate_left
              ·simp only [Act.put, List.setIfInBounds_toArray, List.set_cons_zero, List.set_cons_succ, i64_w, i32_w]
               rfl
              refine take_ (i := 1) (N := some 7) (v := ?_) (a' := ?_) #[true, true, false, false, true, false, false, false, false, true, false, false, false, false, true, false, false, false, false, true, false, false, false, false, true, false, false, false, false, true, false, false, false, false] rfl rfl (take_ofW HT_.out HW_.out (by kernel_rfl)) (fun _ _ _ h => h) (Or.inl ⟨by rfl, ?_⟩) hHeld ?_ ?_
              rotate_left
              ·rintro w' ⟨s0, s1, s2, s3, s4, s5, s6⟩
               go_simp
               with_reducible rfl
              rotate_left
              ·simp only [Act.put, List.setIfInBounds_toArray, List.set_cons_zero, List.set_cons_succ, i64_w, i32_w]
               rfl
              refine take_ (i := 5) (N := some 11) (v := ?_) (a' := ?_) #[true, true, false, false, true, true, false, false, false, true, false, false, false, false, true, false, false, false, false, true, false, false, false, false, true, false, false, false, false, true, false, false, false, false] rfl rfl (take_ofW HT_.out HW_.out (by kernel_rfl)) (fun _ _ _ h => h) (Or.inl ⟨by rfl, ?_⟩) hHeld ?_ ?_
              rotate_left
              ·rintro w' ⟨s0, s1, s2, s3, s4, s5, s6⟩
               go_simp
               with_reducible rfl
              rotate_left
              ·simp only [Act.put, List.setIfInBounds_toArray, List.set_cons_zero, List.set_cons_succ, i64_w, i32_w]
               rfl
              refine take_ (i := 10) (N := some 16) (v := ?_) (a' := ?_) #[true, true, false, false, true, true, false, false, false, true, true, false, false, false, true, false, false, false, false, true, false, false, false, false, true, false, false, false, false, true, false, false, false, false] rfl rfl (take_ofW HT_.out HW_.out (by kernel_rfl)) (fun _ _ _ h => h) (Or.inl ⟨by rfl, ?_⟩) hHeld ?_ ?_
              rotate_left
              ·rintro w' ⟨s0, s1, s2, s3, s4, s5, s6⟩
               go_simp
               with_reducible rfl
              rotate_left
              ·simp only [Act.put, List.setIfInBounds_toArray, List.set_cons_zero, List.set_cons_succ, i64_w, i32_w]
               rfl
              refine take_ (i := 15) (N := some 21) (v := ?_) (a' := ?_) #[true, true, false, false, true, true, false, false, false, true, true, false, false, false, true, true, false, false, false, true, false, false, false, false, true, false, false, false, false, true, false, false, false, false] rfl rfl (take_ofW HT_.out HW_.out (by kernel_rfl)) (fun _ _ _ h => h) (Or.inl ⟨by rfl, ?_⟩) hHeld ?_ ?_
              rotate_left
              ·rintro w' ⟨s0, s1, s2, s3, s4, s5, s6⟩
               go_simp
               with_reducible rfl
              rotate_left
              ·simp only [Act.put, List.setIfInBounds_toArray, List.set_cons_zero, List.set_cons_succ, i64_w, i32_w]
               rfl
              refine take_ (i := 20) (N := some 26) (v := ?_) (a' := ?_) #[true, true, false, false, true, true, false, false, false, true, true, false, false, false, true, true, false, false, false, true, true, false, false, false, true, false, false, false, false, true, false, false, false, false] rfl rfl (take_ofW HT_.out HW_.out (by kernel_rfl)) (fun _ _ _ h => h) (Or.inl ⟨by rfl, ?_⟩) hHeld ?_ ?_
              rotate_left
              ·rintro w' ⟨s0, s1, s2, s3, s4, s5, s6⟩
               go_simp
               with_reducible rfl
              rotate_left
              ·simp only [Act.put, List.setIfInBounds_toArray, List.set_cons_zero, List.set_cons_succ, i64_w, i32_w]
               rfl
              refine take_ (i := 25) (N := some 31) (v := ?_) (a' := ?_) #[true, true, false, false, true, true, false, false, false, true, true, false, false, false, true, true, false, false, false, true, true, false, false, false, true, true, false, false, false, true, false, false, false, false] rfl rfl (take_ofW HT_.out HW_.out (by kernel_rfl)) (fun _ _ _ h => h) (Or.inl ⟨by rfl, ?_⟩) hHeld ?_ ?_
              rotate_left
              ·rintro w' ⟨s0, s1, s2, s3, s4, s5, s6⟩
               go_simp
               with_reducible rfl
              rotate_left
              ·simp only [Act.put, List.setIfInBounds_toArray, List.set_cons_zero, List.set_cons_succ, i64_w, i32_w]
               rfl
              refine take_ (i := 30) (N := some 36) (v := ?_) (a' := ?_) #[true, true, false, false, true, true, false, false, false, true, true, false, false, false, true, true, false, false, false, true, true, false, false, false, true, true, false, false, false, true, true, false, false, false] rfl rfl (take_ofW HT_.out HW_.out (by kernel_rfl)) (fun _ _ _ h => h) (Or.inl ⟨by rfl, ?_⟩) hHeld ?_ ?_
              rotate_left
              ·rintro w' ⟨s0, s1, s2, s3, s4, s5, s6⟩
               go_simp
               with_reducible rfl
              rotate_left
              ·simp only [Act.put, List.setIfInBounds_toArray, List.set_cons_zero, List.set_cons_succ, i64_w, i32_w]
               rfl
              refine one_ (i := 2) (N := some 8) #[true, true, true, false, true, true, false, false, false, true, true, false, false, false, true, true, false, false, false, true, true, false, false, false, true, true, false, false, false, true, true, false, false, false] rfl rfl (one_of HT_.out (by kernel_rfl)) (by decide) (fun K hK => ?_)
              refine goes_ Tryd.func37 (by kernel_rfl) rfl #[.int .i64 a0_0] (by rfl) rfl rfl (by (try simp only [List.map_toArray, List.map_cons, List.map_nil]); first | done | rfl | (simp only [List.length_drop, List.length_take]; rfl)) ?_
              with_reducible refine (lockkeeperref24_num.calls k a0_0 t276 _ A4.out).mono ?_
              rintro e w' ⟨rfl, ⟨nd, rfl⟩⟩
              refine ⟨_, rfl, ?_⟩
              refine hK.out _ _ ⟨(blk_cell BK274.out 0).trans rfl, (blk_cell BK274.out 1).trans rfl, (blk_cell BK274.out 2).trans rfl, (blk_cell BK274.out 3).trans rfl, (blk_cell BK274.out 4).trans rfl, (blk_cell BK274.out 5).trans rfl, (blk_cell BK274.out 6).trans rfl⟩ (fun hHeld => ?_)
              clear hK K
              refine norm_ (a' := ?_) ?_ ?_
              rotate_left
              ·show Act.put _ (some 8) _ = _
               simp only [Act.put, List.setIfInBounds_toArray, List.set_cons_zero, List.set_cons_succ, i64_w, i32_w]
               rfl
              refine pure_ (i := 3) (N := some 9) (v := ?_) (a' := ?_) #[true, true, true, true, true, true, false, false, false, true, true, false, false, false, true, true, false, false, false, true, true, false, false, false, true, true, false, false, false, true, true, false, false, false] rfl rfl (any_of HT_.out (by kernel_rfl)) (fun _ _ _ h => h) (Or.inl ⟨by rfl, ?_⟩) ?_ ?_
              rotate_left
              ·intro w'
               go_simp
               with_reducible rfl
              rotate_left
              ·simp only [Act.put, List.setIfInBounds_toArray, List.set_cons_zero, List.set_cons_succ, i64_w, i32_w]
               rfl
              refine one_ (i := 6) (N := some 12) #[true, true, true, true, true, true, true, false, false, true, true, false, false, false, true, true, false, false, false, true, true, false, false, false, true, true, false, false, false, true, true, false, false, false] rfl rfl (one_of HT_.out (by kernel_rfl)) (by decide) (fun K hK => ?_)
              refine goes_ Tryd.func38 (by kernel_rfl) rfl #[.int .u64 a0_1] (by rfl) rfl rfl (by (try simp only [List.map_toArray, List.map_cons, List.map_nil]); first | done | rfl | (simp only [List.length_drop, List.length_take]; rfl)) ?_
              with_reducible refine (lockkeeperref1_Num.calls k a0_1 t277 _ A6.out).mono ?_
              rintro e w' ⟨rfl, ⟨nd, rfl⟩⟩
              refine ⟨_, rfl, ?_⟩
              refine hK.out _ _ ⟨(blk_cell BK274.out 0).trans rfl, (blk_cell BK274.out 1).trans rfl, (blk_cell BK274.out 2).trans rfl, (blk_cell BK274.out 3).trans rfl, (blk_cell BK274.out 4).trans rfl, (blk_cell BK274.out 5).trans rfl, (blk_cell BK274.out 6).trans rfl⟩ (fun hHeld => ?_)
              clear hK K
              refine norm_ (a' := ?_) ?_ ?_
              rotate_left
              ·show Act.put _ (some 12) _ = _
               simp only [Act.put, List.setIfInBounds_toArray, List.set_cons_zero, List.set_cons_succ, i64_w, i32_w]
               rfl
              refine pure_ (i := 7) (N := some 13) (v := ?_) (a' := ?_) #[true, true, true, true, true, true, true, true, false, true, true, false, false, false, true, true, false, false, false, true, true, false, false, false, true, true, false, false, false, true, true, false, false, false] rfl rfl (any_of HT_.out (by kernel_rfl)) (fun _ _ _ h => h) (Or.inl ⟨by rfl, ?_⟩) ?_ ?_
              rotate_left
              ·intro w'
               go_simp
               with_reducible rfl
              rotate_left
              ·simp only [Act.put, List.setIfInBounds_toArray, List.set_cons_zero, List.set_cons_succ, i64_w, i32_w]
               rfl
              refine pure_ (i := 8) (N := some 14) (v := ?_) (a' := ?_) #[true, true, true, true, true, true, true, true, true, true, true, false, false, false, true, true, false, false, false, true, true, false, false, false, true, true, false, false, false, true, true, false, false, false] rfl rfl (any_of HT_.out (by kernel_rfl)) (fun _ _ _ h => h) (Or.inl ⟨by rfl, ?_⟩) ?_ ?_
              rotate_left
              ·intro w'
               go_simp
               with_reducible rfl
              rotate_left
              ·simp only [Act.put, List.setIfInBounds_toArray, List.set_cons_zero, List.set_cons_succ, i64_w, i32_w]
               rfl
              refine one_ (i := 11) (N := some 17) #[true, true, true, true, true, true, true, true, true, true, true, true, false, false, true, true, false, false, false, true, true, false, false, false, true, true, false, false, false, true, true, false, false, false] rfl rfl (one_of HT_.out (by kernel_rfl)) (by decide) (fun K hK => ?_)
              refine goes_ Tryd.func21 (by kernel_rfl) rfl #[.int .i64 a0_2] (by rfl) rfl rfl (by (try simp only [List.map_toArray, List.map_cons, List.map_nil]); first | done | rfl | (simp only [List.length_drop, List.length_take]; rfl)) ?_
              with_reducible refine (lockkeeperref24_Name.calls a0_2 t278 _ A9.out).mono ?_
              rintro e w27 ⟨rfl, hb⟩
              refine ⟨_, rfl, ?_⟩
              have n0_ := Aside0.mk (blk_below (g := gb274) (o := .cells #[.int .i64 a0_0, .int .u64 a0_1, .int .i64 a0_2, .int .i64 a0_3, .int .i64 a0_4, .int .i64 a0_5, .int .i64 a0_6] 24 (0, 0)) (by (with_reducible repeat (first | refine blk_drewN ?_ _ | refine blk_drew ?_ | refine blk_alloc ?_ _)); exact BK274.out) hb)
              have n1_ := Aside0.mk (below_step (by repeat (first | (with_reducible first | exact HB.out | apply below_alloc | apply pw_below_drewN | apply below_drew1 | refine below_set ?_ GE274.out) | exact HB.out)) hb)
              clear BK274
              clear HB
              have BK274 := n0_
              have HB := n1_
              clear n0_ n1_
              (try clear hb)
              (try clear hb2)
              (try clear hk)
              (try clear hi)
              refine hK.out _ _ ⟨(blk_cell BK274.out 0).trans rfl, (blk_cell BK274.out 1).trans rfl, (blk_cell BK274.out 2).trans rfl, (blk_cell BK274.out 3).trans rfl, (blk_cell BK274.out 4).trans rfl, (blk_cell BK274.out 5).trans rfl, (blk_cell BK274.out 6).trans rfl⟩ (fun hHeld => ?_)
              clear hK K
              refine norm_ (a' := ?_) ?_ ?_
              rotate_left
              ·show Act.put _ (some 17) _ = _
               simp only [Act.put, List.setIfInBounds_toArray, List.set_cons_zero, List.set_cons_succ, i64_w, i32_w]
               rfl
              refine pure_ (i := 12) (N := some 18) (v := ?_) (a' := ?_) #[true, true, true, true, true, true, true, true, true, true, true, true, true, false, true, true, false, false, false, true, true, false, false, false, true, true, false, false, false, true, true, false, false, false] rfl rfl (any_of HT_.out (by kernel_rfl)) (fun _ _ _ h => h) (Or.inl ⟨by rfl, ?_⟩) ?_ ?_
              rotate_left
              ·intro w'
               go_simp
               with_reducible rfl
              rotate_left
              ·simp only [Act.put, List.setIfInBounds_toArray, List.set_cons_zero, List.set_cons_succ, i64_w, i32_w]
               rfl
              refine pure_ (i := 13) (N := some 19) (v := ?_) (a' := ?_) #[true, true, true, true, true, true, true, true, true, true, true, true, true, true, true, true, false, false, false, true, true, false, false, false, true, true, false, false, false, true, true, false, false, false] rfl rfl (any_of HT_.out (by kernel_rfl)) (fun _ _ _ h => h) (Or.inl ⟨by rfl, ?_⟩) ?_ ?_
              rotate_left
              ·intro w'
               go_simp
               with_reducible rfl
              rotate_left
              ·simp only [Act.put, List.setIfInBounds_toArray, List.set_cons_zero, List.set_cons_succ, i64_w, i32_w]
               rfl
              refine one_ (i := 16) (N := some 22) #[true, true, true, true, true, true, true, true, true, true, true, true, true, true, true, true, true, false, false, true, true, false, false, false, true, true, false, false, false, true, true, false, false, false] rfl rfl (one_of HT_.out (by kernel_rfl)) (by decide) (fun K hK => ?_)
              refine goes_ Tryd.func37 (by kernel_rfl) rfl #[.int .i64 a0_3] (by rfl) rfl rfl (by (try simp only [List.map_toArray, List.map_cons, List.map_nil]); first | done | rfl | (simp only [List.length_drop, List.length_take]; rfl)) ?_
              with_reducible refine (lockkeeperref24_num.calls k a0_3 t279 _ A12.out).mono ?_
              rintro e w' ⟨rfl, ⟨nd, rfl⟩⟩
              refine ⟨_, rfl, ?_⟩
              refine hK.out _ _ ⟨(blk_cell BK274.out 0).trans rfl, (blk_cell BK274.out 1).trans rfl, (blk_cell BK274.out 2).trans rfl, (blk_cell BK274.out 3).trans rfl, (blk_cell BK274.out 4).trans rfl, (blk_cell BK274.out 5).trans rfl, (blk_cell BK274.out 6).trans rfl⟩ (fun hHeld => ?_)
              clear hK K
              refine norm_ (a' := ?_) ?_ ?_
              rotate_left
              ·show Act.put _ (some 22) _ = _
               simp only [Act.put, List.setIfInBounds_toArray, List.set_cons_zero, List.set_cons_succ, i64_w, i32_w]
               rfl
              refine pure_ (i := 17) (N := some 23) (v := ?_) (a' := ?_) #[true, true, true, true, true, true, true, true, true, true, true, true, true, true, true, true, true, true, false, true, true, false, false, false, true, true, false, false, false, true, true, false, false, false] rfl rfl (any_of HT_.out (by kernel_rfl)) (fun _ _ _ h => h) (Or.inl ⟨by rfl, ?_⟩) ?_ ?_
              rotate_left
              ·intro w'
               go_simp
               with_reducible rfl
              rotate_left
              ·simp only [Act.put, List.setIfInBounds_toArray, List.set_cons_zero, List.set_cons_succ, i64_w, i32_w]
               rfl
              refine pure_ (i := 18) (N := some 24) (v := ?_) (a' := ?_) #[true, true, true, true, true, true, true, true, true, true, true, true, true, true, true, true, true, true, true, true, true, false, false, false, true, true, false, false, false, true, true, false, false, false] rfl rfl (any_of HT_.out (by kernel_rfl)) (fun _ _ _ h => h) (Or.inl ⟨by rfl, ?_⟩) ?_ ?_
              rotate_left
              ·intro w'
               go_simp
               with_reducible rfl
              rotate_left
              ·simp only [Act.put, List.setIfInBounds_toArray, List.set_cons_zero, List.set_cons_succ, i64_w, i32_w]
               rfl
              refine one_ (i := 21) (N := some 27) #[true, true, true, true, true, true, true, true, true, true, true, true, true, true, true, true, true, true, true, true, true, true, false, false, true, true, false, false, false, true, true, false, false, false] rfl rfl (one_of HT_.out (by kernel_rfl)) (by decide) (fun K hK => ?_)
              refine goes_ Tryd.func37 (by kernel_rfl) rfl #[.int .i64 a0_4] (by rfl) rfl rfl (by (try simp only [List.map_toArray, List.map_cons, List.map_nil]); first | done | rfl | (simp only [List.length_drop, List.length_take]; rfl)) ?_
              with_reducible refine (lockkeeperref24_num.calls k a0_4 t280 _ A15.out).mono ?_
              rintro e w' ⟨rfl, ⟨nd, rfl⟩⟩
              refine ⟨_, rfl, ?_⟩
              refine hK.out _ _ ⟨(blk_cell BK274.out 0).trans rfl, (blk_cell BK274.out 1).trans rfl, (blk_cell BK274.out 2).trans rfl, (blk_cell BK274.out 3).trans rfl, (blk_cell BK274.out 4).trans rfl, (blk_cell BK274.out 5).trans rfl, (blk_cell BK274.out 6).trans rfl⟩ (fun hHeld => ?_)
              clear hK K
              refine norm_ (a' := ?_) ?_ ?_
              rotate_left
              ·show Act.put _ (some 27) _ = _
               simp only [Act.put, List.setIfInBounds_toArray, List.set_cons_zero, List.set_cons_succ, i64_w, i32_w]
               rfl
              refine pure_ (i := 22) (N := some 28) (v := ?_) (a' := ?_) #[true, true, true, true, true, true, true, true, true, true, true, true, true, true, true, true, true, true, true, true, true, true, true, false, true, true, false, false, false, true, true, false, false, false] rfl rfl (any_of HT_.out (by kernel_rfl)) (fun _ _ _ h => h) (Or.inl ⟨by rfl, ?_⟩) ?_ ?_
              rotate_left
              ·intro w'
               go_simp
               with_reducible rfl
              rotate_left
              ·simp only [Act.put, List.setIfInBounds_toArray, List.set_cons_zero, List.set_cons_succ, i64_w, i32_w]
               rfl
              refine pure_ (i := 23) (N := some 29) (v := ?_) (a' := ?_) #[true, true, true, true, true, true, true, true, true, true, true, true, true, true, true, true, true, true, true, true, true, true, true, true, true, true, false, false, false, true, true, false, false, false] rfl rfl (any_of HT_.out (by kernel_rfl)) (fun _ _ _ h => h) (Or.inl ⟨by rfl, ?_⟩) ?_ ?_
              rotate_left
              ·intro w'
               go_simp
               with_reducible rfl
              rotate_left
              ·simp only [Act.put, List.setIfInBounds_toArray, List.set_cons_zero, List.set_cons_succ, i64_w, i32_w]
               rfl
              refine one_ (i := 26) (N := some 32) #[true, true, true, true, true, true, true, true, true, true, true, true, true, true, true, true, true, true, true, true, true, true, true, true, true, true, true, false, false, true, true, false, false, false] rfl rfl (one_of HT_.out (by kernel_rfl)) (by decide) (fun K hK => ?_)
              refine goes_ Tryd.func37 (by kernel_rfl) rfl #[.int .i64 a0_5] (by rfl) rfl rfl (by (try simp only [List.map_toArray, List.map_cons, List.map_nil]); first | done | rfl | (simp only [List.length_drop, List.length_take]; rfl)) ?_
              with_reducible refine (lockkeeperref24_num.calls k a0_5 t281 _ A18.out).mono ?_
              rintro e w' ⟨rfl, ⟨nd, rfl⟩⟩
              refine ⟨_, rfl, ?_⟩
              refine hK.out _ _ ⟨(blk_cell BK274.out 0).trans rfl, (blk_cell BK274.out 1).trans rfl, (blk_cell BK274.out 2).trans rfl, (blk_cell BK274.out 3).trans rfl, (blk_cell BK274.out 4).trans rfl, (blk_cell BK274.out 5).trans rfl, (blk_cell BK274.out 6).trans rfl⟩ (fun hHeld => ?_)
              clear hK K
              refine norm_ (a' := ?_) ?_ ?_
              rotate_left
              ·show Act.put _ (some 32) _ = _
               simp only [Act.put, List.setIfInBounds_toArray, List.set_cons_zero, List.set_cons_succ, i64_w, i32_w]
               rfl
              refine pure_ (i := 27) (N := some 33) (v := ?_) (a' := ?_) #[true, true, true, true, true, true, true, true, true, true, true, true, true, true, true, true, true, true, true, true, true, true, true, true, true, true, true, true, false, true, true, false, false, false] rfl rfl (any_of HT_.out (by kernel_rfl)) (fun _ _ _ h => h) (Or.inl ⟨by rfl, ?_⟩) ?_ ?_
              rotate_left
              ·intro w'
               go_simp
               with_reducible rfl
              rotate_left
              ·simp only [Act.put, List.setIfInBounds_toArray, List.set_cons_zero, List.set_cons_succ, i64_w, i32_w]
               rfl
              refine pure_ (i := 28) (N := some 34) (v := ?_) (a' := ?_) #[true, true, true, true, true, true, true, true, true, true, true, true, true, true, true, true, true, true, true, true, true, true, true, true, true, true, true, true, true, true, true, false, false, false] rfl rfl (any_of HT_.out (by kernel_rfl)) (fun _ _ _ h => h) (Or.inl ⟨by rfl, ?_⟩) ?_ ?_
              rotate_left
              ·intro w'
               go_simp
               with_reducible rfl
              rotate_left
              ·simp only [Act.put, List.setIfInBounds_toArray, List.set_cons_zero, List.set_cons_succ, i64_w, i32_w]
               rfl
              refine one_ (i := 31) (N := some 37) #[true, true, true, true, true, true, true, true, true, true, true, true, true, true, true, true, true, true, true, true, true, true, true, true, true, true, true, true, true, true, true, true, false, false] rfl rfl (one_of HT_.out (by kernel_rfl)) (by decide) (fun K hK => ?_)
              refine goes_ Tryd.func37 (by kernel_rfl) rfl #[.int .i64 a0_6] (by rfl) rfl rfl (by (try simp only [List.map_toArray, List.map_cons, List.map_nil]); first | done | rfl | (simp only [List.length_drop, List.length_take]; rfl)) ?_
              with_reducible refine (lockkeeperref24_num.calls k a0_6 t282 _ A21.out).mono ?_
              rintro e w' ⟨rfl, ⟨nd, rfl⟩⟩
              refine ⟨_, rfl, ?_⟩
              refine hK.out _ _ ⟨(blk_cell BK274.out 0).trans rfl, (blk_cell BK274.out 1).trans rfl, (blk_cell BK274.out 2).trans rfl, (blk_cell BK274.out 3).trans rfl, (blk_cell BK274.out 4).trans rfl, (blk_cell BK274.out 5).trans rfl, (blk_cell BK274.out 6).trans rfl⟩ (fun hHeld => ?_)
              clear hK K
              refine norm_ (a' := ?_) ?_ ?_
              rotate_left
              ·show Act.put _ (some 37) _ = _
               simp only [Act.put, List.setIfInBounds_toArray, List.set_cons_zero, List.set_cons_succ, i64_w, i32_w]
               rfl
              refine pure_ (i := 32) (N := some 38) (v := ?_) (a' := ?_) #[true, true, true, true, true, true, true, true, true, true, true, true, true, true, true, true, true, true, true, true, true, true, true, true, true, true, true, true, true, true, true, true, true, false] rfl rfl (any_of HT_.out (by kernel_rfl)) (fun _ _ _ h => h) (Or.inl ⟨by rfl, ?_⟩) ?_ ?_
              rotate_left
              ·intro w'
               go_simp
               with_reducible rfl
              rotate_left
              ·simp only [Act.put, List.setIfInBounds_toArray, List.set_cons_zero, List.set_cons_succ, i64_w, i32_w]
               rfl
              refine pure_ (i := 33) (N := some 2) (v := ?_) (a' := ?_) #[true, true, true, true, true, true, true, true, true, true, true, true, true, true, true, true, true, true, true, true, true, true, true, true, true, true, true, true, true, true, true, true, true, true] rfl rfl (any_of HT_.out (by kernel_rfl)) (fun _ _ _ h => h) (Or.inl ⟨by rfl, ?_⟩) ?_ ?_
              rotate_left
              ·intro w'
               go_simp
               with_reducible rfl
              rotate_left
              ·simp only [Act.put, List.setIfInBounds_toArray, List.set_cons_zero, List.set_cons_succ, i64_w, i32_w]
               rfl
              refine done_ (done_of HT_.out (by kernel_rfl)) ?_
              try go_wp2
              go_ret
              exact ⟨by first | rfl | (simp [errW_none, errW_some] <;> rfl) | (simp [*, errW_none, errW_some] <;> rfl), by repeat (first | (with_reducible first | exact HB.out | apply below_alloc | apply pw_below_drewN | apply below_drew1 | refine below_set ?_ GE274.out) | exact HB.out)⟩
             ·rw [if_neg c22] at H
              exact absurd H (by simp)
            ·rw [if_neg c20] at H
             exact absurd H (by simp)
           ·rw [if_neg c19] at H
            exact absurd H (by simp)
          ·rw [if_neg c17] at H
           exact absurd H (by simp)
         ·rw [if_neg c16] at H
          exact absurd H (by simp)
        ·rw [if_neg c14] at H
         exact absurd H (by simp)
       ·rw [if_neg c13] at H
        exact absurd H (by simp)
      ·rw [if_neg c11] at H
       exact absurd H (by simp)
     ·rw [if_neg c10] at H
      exact absurd H (by simp)
    ·rw [if_neg c8] at H
     exact absurd H (by simp)
   ·rw [if_neg c7] at H
    exact absurd H (by simp)
  ·rw [if_neg c5] at H
   exact absurd H (by simp)
 ·replace c3 := Bool.eq_false_iff.mpr c3
  subst c3
  have H1 : (some (⟨#[]⟩ : ByteArray)) = some r := by rw [if_neg (show ¬ (false = true) by decide)] at H; exact H
  clear H
  have H := H1
  clear H1
  obtain rfl := Option.some.inj H
  go_enter Tryd.func18, Tryd.ntmps18
  go_wp2_with (first | ((with_reducible refine gate_dst (N := 1) rfl ?_); refine box_event ?hg (N := 1) ?hd (cs := #[.int .i64 a0_0, .int .u64 a0_1, .int .i64 a0_2, .int .i64 a0_3, .int .i64 a0_4, .int .i64 a0_5, .int .i64 a0_6]) (t := 24) ?hr ?_; (case hd => rfl); (case hg => rfl); (case hr => first | (go_simp; done) | (go_simp; rfl)); intro gb274 hg w28 hbox hb; have n0_ := Aside0.mk (below_step (by repeat (first | (with_reducible first | exact HB.out | apply below_alloc | apply pw_below_drewN | apply below_drew1) | exact HB.out)) hb); have n1_ := Aside0.mk (hbox); have n2_ := Aside0.mk ((by rw [hg]; exact (below_size (by repeat (first | (with_reducible first | exact HB.out | apply below_alloc | apply pw_below_drewN | apply below_drew1) | exact HB.out))) : w.heap.size ≤ gb274)); have n3_ := Aside0.mk ((by rw [hg]; exact (below_size (by repeat (first | (with_reducible first | exact HB.out | apply below_alloc | apply pw_below_drewN | apply below_drew1) | exact HB.out))) : w.heap.size ≤ gb274)); clear HB; have HB := n0_; have BK274 := n1_; have GW274 := n2_; have GE274 := n3_; clear n0_ n1_ n2_ n3_; clear hb hbox hg; have hcz29_0 : w28.cell? ⟨gb274, 0, none⟩ = some (.int .i64 a0_0) := (blk_cell BK274.out 0).trans rfl; have hcz29_1 : w28.cell? ⟨gb274, 1, none⟩ = some (.int .u64 a0_1) := (blk_cell BK274.out 1).trans rfl; have hcz29_2 : w28.cell? ⟨gb274, 2, none⟩ = some (.int .i64 a0_2) := (blk_cell BK274.out 2).trans rfl; have hcz29_3 : w28.cell? ⟨gb274, 3, none⟩ = some (.int .i64 a0_3) := (blk_cell BK274.out 3).trans rfl; have hcz29_4 : w28.cell? ⟨gb274, 4, none⟩ = some (.int .i64 a0_4) := (blk_cell BK274.out 4).trans rfl; have hcz29_5 : w28.cell? ⟨gb274, 5, none⟩ = some (.int .i64 a0_5) := (blk_cell BK274.out 5).trans rfl; have hcz29_6 : w28.cell? ⟨gb274, 6, none⟩ = some (.int .i64 a0_6) := (blk_cell BK274.out 6).trans rfl; have hfz29_0 := blk_frozen BK274.out 0; have hfz29_1 := blk_frozen BK274.out 1; have hfz29_2 := blk_frozen BK274.out 2; have hfz29_3 := blk_frozen BK274.out 3; have hfz29_4 := blk_frozen BK274.out 4; have hfz29_5 := blk_frozen BK274.out 5; have hfz29_6 := blk_frozen BK274.out 6) | ((with_reducible refine gate_callee (f := 17) rfl ?_); refine goesL_ (some 4) rfl rfl Tryd.func17 (by kernel_rfl) rfl #[.agg #[.int .i64 a0_0, .int .u64 a0_1, .int .i64 a0_2, .int .i64 a0_3, .int .i64 a0_4, .int .i64 a0_5, .int .i64 a0_6]] rfl (by (try simp only [List.map_toArray, List.map_cons, List.map_nil]); first | done | rfl | (simp only [List.length_drop, List.length_take]; rfl)) ?_; (with_reducible refine (lockkeeperref24_Check.calls a0_0 a0_1 a0_2 a0_3 a0_4 a0_5 a0_6 false _ A2.out).mono ?_); rintro e w30 ⟨rfl, hb⟩; refine ⟨_, rfl, ?_⟩; have n0_ := Aside0.mk (blk_below (g := gb274) (o := .cells #[.int .i64 a0_0, .int .u64 a0_1, .int .i64 a0_2, .int .i64 a0_3, .int .i64 a0_4, .int .i64 a0_5, .int .i64 a0_6] 24 (0, 0)) (by (with_reducible repeat (first | refine blk_drewN ?_ _ | refine blk_drew ?_ | refine blk_alloc ?_ _)); exact BK274.out) hb); have n1_ := Aside0.mk (below_step (by repeat (first | (with_reducible first | exact HB.out | apply below_alloc | apply pw_below_drewN | apply below_drew1 | refine below_set ?_ GE274.out) | exact HB.out)) hb); clear BK274; clear HB; have BK274 := n0_; have HB := n1_; clear n0_ n1_; (try clear hb); (try clear hb2); (try clear hk); (try clear hi)))
  go_ret
  exact ⟨by first | rfl | (simp [errW_none, errW_some] <;> rfl) | (simp [*, errW_none, errW_some] <;> rfl), by repeat (first | (with_reducible first | exact HB.out | apply below_alloc | apply pw_below_drewN | apply below_drew1 | refine below_set ?_ GE274.out) | exact HB.out)⟩

/-! ### lockkeeperlaw0_Events: function 19 -/
def lockkeeperlaw0_Events.l0 : Nat → List (S24) → List (S24) → Int → Option (Bool)
 | 0, _, _, _ => none
 | k + 1, x0, x1, x5 => if x5 < (x0.length : Int) then (if 0 ≤ x5 then (if x5 < (x1.length : Int) then (if (!(((rd_T24 x0 x5).f0) == ((rd_T24 x1 x5).f0)) || (!(((rd_T24 x0 x5).f1) == ((rd_T24 x1 x5).f1)) || (!(((rd_T24 x0 x5).f2) == ((rd_T24 x1 x5).f2)) || (!(((rd_T24 x0 x5).f3) == ((rd_T24 x1 x5).f3)) || (!(((rd_T24 x0 x5).f4) == ((rd_T24 x1 x5).f4)) || (!(((rd_T24 x0 x5).f5) == ((rd_T24 x1 x5).f5)) || (!(((rd_T24 x0 x5).f6) == ((rd_T24 x1 x5).f6))))))))) = true then (some false) else (lockkeeperlaw0_Events.l0 k x0 x1 (wrap64 (x5 + 1)))) else (none)) else (none)) else (some true)
def lockkeeperlaw0_Events.f (k : Nat) (l0 : List (S24)) (l1 : List (S24)) : Option (Bool) := if (l0.length : Int) = (l1.length : Int) then (lockkeeperlaw0_Events.l0 k l0 l1 0) else (some false)
theorem lockkeeperlaw0_Events.mono_l : ∀ k, (∀ y0 y1 y2, LeO (lockkeeperlaw0_Events.l0 k y0 y1 y2) (lockkeeperlaw0_Events.l0 (k + 1) y0 y1 y2))
 | 0 => fun _ _ _ r h => by simp [lockkeeperlaw0_Events.l0] at h
 | k + 1 => by
  have ih0 := lockkeeperlaw0_Events.mono_l k
  ·intro y0 y1 y2
   unfold lockkeeperlaw0_Events.l0
   repeat' first
   | (with_reducible exact ih0 _ _ _)
   | (with_reducible exact LeO.refl _)
   | (with_reducible exact LeO.none _)
   | (with_reducible refine LeO.ite ?_ ?_)
   | (with_reducible refine LeO.bind ?_ (fun _ => ?_))
   | exact ih0 _ _ _
   | exact LeO.none _
   | refine LeO.ite ?_ ?_
   | refine LeO.bind ?_ (fun _ => ?_)
theorem lockkeeperlaw0_Events.mono : ∀ a0 a1 k, LeO (lockkeeperlaw0_Events.f k a0 a1) (lockkeeperlaw0_Events.f (k + 1) a0 a1) := by
 intro a0 a1 k
 have ih0 := lockkeeperlaw0_Events.mono_l k
 unfold lockkeeperlaw0_Events.f
 repeat' first
   | (with_reducible exact ih0 _ _ _)
   | (with_reducible exact LeO.refl _)
   | (with_reducible exact LeO.none _)
   | (with_reducible refine LeO.ite ?_ ?_)
   | (with_reducible refine LeO.bind ?_ (fun _ => ?_))
   | exact ih0 _ _ _
   | exact LeO.none _
   | refine LeO.ite ?_ ?_
   | refine LeO.bind ?_ (fun _ => ?_)
set_option maxHeartbeats 8000000 in
set_option maxRecDepth 100000 in
theorem lockkeeperlaw0_Events.calls (k : Nat) (A0 : Option Addr) (c0 : Nat) (l0 : List (S24)) (A1 : Option Addr) (c1 : Nat) (l1 : List (S24)) (r : Bool) (w : World) (hr0 : Kd.C k24 w A0 l0.length l0) (hc0 : l0.length ≤ c0) (hr1 : Kd.C k24 w A1 l1.length l1) (hc1 : l1.length ≤ c1) (h : lockkeeperlaw0_Events.f k l0 l1 = some r) :
  Calls Tryd.prog 19 #[.slice A0 l0.length c0, .slice A1 l1.length c1] w fun e w' => e = .returned (.bool r) ∧ Drawn0 w w' := by
 have hu24 := Tryd.underlying24
 have HR0 := Aside0.mk hr0
 have HC0 := Aside0.mk hc0
 clear hr0 hc0
 have HR1 := Aside0.mk hr1
 have HC1 := Aside0.mk hc1
 clear hr1 hc1
 have H : (if (l0.length : Int) = (l1.length : Int) then (lockkeeperlaw0_Events.l0 k l0 l1 0) else (some false)) = some r := h
 clear h
 by_cases c3 : (l0.length : Int) = (l1.length : Int)
 ·rw [if_pos c3] at H
  have c3b0 : ((l0.length : Int) == (l1.length : Int)) = true := beq_iff_eq.mpr c3
  have c3b1 : ((l0.length : Int) != (l1.length : Int)) = false := bne_eq_false_iff_eq.mpr c3
  have c3b2 : (l0.length == l1.length) = true := by first | simpa using c3 | (simp at c3 ⊢; omega)
  clear c3
  have H' := Aside0.mk H
  clear H
  go_enter Tryd.func19, Tryd.ntmps19
  go_wp2
  repeat (go_quiet (fail); try go_wp2)
  go_loopg [5] k (fun kq v5 w' => ∃ (x5_1 : Int), v5 = .int .i64 x5_1 ∧ Aside0 (lockkeeperlaw0_Events.l0 kq l0 l1 x5_1 = some r) ∧ Aside0 (kq ≤ k) ∧ Drawn0 w w')
  case atStart => exact ⟨(0), (by first | rfl | (simp; done) | (simp [*]; done)), H', ⟨Nat.le_refl _⟩, by repeat (first | exact Drawn0.refl _ | apply Drawn0.step)⟩
  case round =>
   clear H'
   try clear c1
   try clear p2
   try clear c3
   try clear c3b0
   try clear c3b1
   try clear c3b2
   obtain ⟨x5_1, rfl, HA, HK1, ⟨m1, rfl⟩⟩ := hrel
   cases gk with
   | zero => exact absurd HA.out (by simp [lockkeeperlaw0_Events.l0])
   | succ k1 =>
    have H := HA.out
    clear HA
    simp only [lockkeeperlaw0_Events.l0] at H
    by_cases c4 : x5_1 < (l0.length : Int)
    ·rw [if_pos c4] at H
     have c4b0 : decide (x5_1 < (l0.length : Int)) = true := decide_eq_true c4
     clear c4
     by_cases c5 : 0 ≤ x5_1
     ·rw [if_pos c5] at H
      have c5b0 : decide (0 ≤ x5_1) = true := decide_eq_true c5
      clear c5
      by_cases c6 : x5_1 < (l1.length : Int)
      ·rw [if_pos c6] at H
       have c6b0 : decide (x5_1 < (l1.length : Int)) = true := decide_eq_true c6
       clear c6
       by_cases c7 : (!(((rd_T24 l0 x5_1).f0) == ((rd_T24 l1 x5_1).f0)) || (!(((rd_T24 l0 x5_1).f1) == ((rd_T24 l1 x5_1).f1)) || (!(((rd_T24 l0 x5_1).f2) == ((rd_T24 l1 x5_1).f2)) || (!(((rd_T24 l0 x5_1).f3) == ((rd_T24 l1 x5_1).f3)) || (!(((rd_T24 l0 x5_1).f4) == ((rd_T24 l1 x5_1).f4)) || (!(((rd_T24 l0 x5_1).f5) == ((rd_T24 l1 x5_1).f5)) || (!(((rd_T24 l0 x5_1).f6) == ((rd_T24 l1 x5_1).f6))))))))) = true
       ·rw [if_pos c7] at H
        have c7b0 : (!(((rd_T24 l0 x5_1).f0) == ((rd_T24 l1 x5_1).f0)) || (!(((rd_T24 l0 x5_1).f1) == ((rd_T24 l1 x5_1).f1)) || (!(((rd_T24 l0 x5_1).f2) == ((rd_T24 l1 x5_1).f2)) || (!(((rd_T24 l0 x5_1).f3) == ((rd_T24 l1 x5_1).f3)) || (!(((rd_T24 l0 x5_1).f4) == ((rd_T24 l1 x5_1).f4)) || (!(((rd_T24 l0 x5_1).f5) == ((rd_T24 l1 x5_1).f5)) || (!(((rd_T24 l0 x5_1).f6) == ((rd_T24 l1 x5_1).f6))))))))) = true := c7
        clear c7
        obtain rfl := Option.some.inj H
        have p283 : 0 ≤ (x5_1 : Int) := of_decide_eq_true (by first | (with_reducible assumption) | assumption)
        have q283 : x5_1 < (l0.length : Int) := of_decide_eq_true (by first | (with_reducible assumption) | assumption)
        obtain ⟨ad283, e283, hx283_0, hx283_1, hx283_2, hx283_3, hx283_4, hx283_5, hx283_6⟩ := at_T24 HR0.out x5_1 p283 q283
        cases e283
        replace p283 := eq_true p283
        replace q283 := eq_true q283
        have p284 : 0 ≤ (x5_1 : Int) := of_decide_eq_true (by first | (with_reducible assumption) | assumption)
        have q284 : x5_1 < (l1.length : Int) := of_decide_eq_true (by first | (with_reducible assumption) | assumption)
        obtain ⟨ad284, e284, hx284_0, hx284_1, hx284_2, hx284_3, hx284_4, hx284_5, hx284_6⟩ := at_T24 HR1.out x5_1 p284 q284
        cases e284
        replace p284 := eq_true p284
        replace q284 := eq_true q284
        go_wp2
        repeat (go_quiet (fail); try go_wp2)
        go_ret
        exact ⟨by first | rfl | (simp; done) | (simp [*]; done), by repeat (first | exact Drawn0.refl _ | apply Drawn0.step)⟩
       ·rw [if_neg c7] at H
        have c7b0 : (!(((rd_T24 l0 x5_1).f0) == ((rd_T24 l1 x5_1).f0)) || (!(((rd_T24 l0 x5_1).f1) == ((rd_T24 l1 x5_1).f1)) || (!(((rd_T24 l0 x5_1).f2) == ((rd_T24 l1 x5_1).f2)) || (!(((rd_T24 l0 x5_1).f3) == ((rd_T24 l1 x5_1).f3)) || (!(((rd_T24 l0 x5_1).f4) == ((rd_T24 l1 x5_1).f4)) || (!(((rd_T24 l0 x5_1).f5) == ((rd_T24 l1 x5_1).f5)) || (!(((rd_T24 l0 x5_1).f6) == ((rd_T24 l1 x5_1).f6))))))))) = false := by simpa using c7
        clear c7
        have H' := Aside0.mk H
        clear H
        have p283 : 0 ≤ (x5_1 : Int) := of_decide_eq_true (by first | (with_reducible assumption) | assumption)
        have q283 : x5_1 < (l0.length : Int) := of_decide_eq_true (by first | (with_reducible assumption) | assumption)
        obtain ⟨ad283, e283, hx283_0, hx283_1, hx283_2, hx283_3, hx283_4, hx283_5, hx283_6⟩ := at_T24 HR0.out x5_1 p283 q283
        cases e283
        replace p283 := eq_true p283
        replace q283 := eq_true q283
        have p284 : 0 ≤ (x5_1 : Int) := of_decide_eq_true (by first | (with_reducible assumption) | assumption)
        have q284 : x5_1 < (l1.length : Int) := of_decide_eq_true (by first | (with_reducible assumption) | assumption)
        obtain ⟨ad284, e284, hx284_0, hx284_1, hx284_2, hx284_3, hx284_4, hx284_5, hx284_6⟩ := at_T24 HR1.out x5_1 p284 q284
        cases e284
        replace p284 := eq_true p284
        replace q284 := eq_true q284
        go_wp2
        repeat (go_quiet (fail); try go_wp2)
        go_roundg k1
        case measure => have := HK1.out; omega
        case rel => exact ⟨(wrap64 (x5_1 + 1)), (by first | rfl | (simp; done) | (simp [*]; done)), H', ⟨by have := HK1.out; omega⟩, by repeat (first | exact Drawn0.refl _ | apply Drawn0.step)⟩
      ·rw [if_neg c6] at H
       exact absurd H (by simp)
     ·rw [if_neg c5] at H
      exact absurd H (by simp)
    ·rw [if_neg c4] at H
     have c4b0 : decide (x5_1 < (l0.length : Int)) = false := decide_eq_false c4
     clear c4
     obtain rfl := Option.some.inj H
     go_wp2
     repeat (go_quiet (fail); try go_wp2)
     go_ret
     exact ⟨by first | rfl | (simp; done) | (simp [*]; done), by repeat (first | exact Drawn0.refl _ | apply Drawn0.step)⟩
 ·rw [if_neg c3] at H
  have c3b0 : ((l0.length : Int) == (l1.length : Int)) = false := beq_eq_false_iff_ne.mpr c3
  have c3b1 : ((l0.length : Int) != (l1.length : Int)) = true := bne_iff_ne.mpr c3
  have c3b2 : (l0.length == l1.length) = false := by first | simpa using c3 | (simp at c3 ⊢; omega)
  obtain rfl := Option.some.inj H
  go_enter Tryd.func19, Tryd.ntmps19
  go_wp2
  repeat (go_quiet (fail); try go_wp2)
  go_ret
  exact ⟨by first | rfl | (simp; done) | (simp [*]; done), by repeat (first | exact Drawn0.refl _ | apply Drawn0.step)⟩

/-! ### lockkeeperref24_Over: function 23 -/
def lockkeeperref24_Over.f (a0 : Int) : Option (Bool) := if a0 ≥ 14 then (some (decide (a0 ≤ 18))) else (some false)
set_option maxHeartbeats 8000000 in
set_option maxRecDepth 100000 in
theorem lockkeeperref24_Over.calls (a0 : Int) (r : Bool) (w : World) (h : lockkeeperref24_Over.f a0 = some r) :
  Calls Tryd.prog 23 #[.int .i64 a0] w fun e w' => e = .returned (.bool r) ∧ Drawn0 w w' := by
 have H : (if a0 ≥ 14 then (some (decide (a0 ≤ 18))) else (some false)) = some r := h
 clear h
 by_cases c2 : a0 ≥ 14
 ·rw [if_pos c2] at H
  have c2b0 : decide (14 ≤ a0) = true := decide_eq_true c2
  clear c2
  obtain rfl := Option.some.inj H
  go_enter Tryd.func23, Tryd.ntmps23
  go_wp2
  go_ret
  exact ⟨by first | rfl | (simp; done) | (simp [*]; done), by repeat (first | exact Drawn0.refl _ | apply Drawn0.step)⟩
 ·rw [if_neg c2] at H
  have c2b0 : decide (14 ≤ a0) = false := decide_eq_false c2
  clear c2
  obtain rfl := Option.some.inj H
  go_enter Tryd.func23, Tryd.ntmps23
  go_wp2
  go_ret
  exact ⟨by first | rfl | (simp; done) | (simp [*]; done), by repeat (first | exact Drawn0.refl _ | apply Drawn0.step)⟩

end Go.Proofs.YtpkmhepoeefgkaaDoor.Pr
