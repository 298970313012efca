/- The row of FlightOthers, out of its printed contract and its pure statement: for every input, with no condition. (Written by wip/xp/xrow.py.) -/
import Derived.Test.YtfmajangcbgooaaGreatDoorBFlightOthers
import Derived.Test.YtfmajangcbgooaaGreatDoorR1
import Derived.Test.YtfmajangcbgooaaGreatDoorPr17
import Derived.Test.YtfmajangcbgooaaGreatDoorPr2
import Derived.Test.YtfmajangcbgooaaGreatDoorRows
import Derived.WalkKit
import Derived.ProofKit
import Derived.OpenShut
import Derived.ShutString
import Derived.ChangeOld
import Derived.Below
import Derived.SizedLaws
import Derived.Carry
import Derived.LaidSub
import Derived.Shelf.Vars
import Derived.Test.YtfmajangcbgooaaGreatDoorCards
import Derived.Test.YtfmajangcbgooaaGreatDoorTie
import Derived.Deep.DeepHandedRow
import Derived.Deep.DeepWitnessRowRef
import Derived.Lib.LaidTab

/- The printed law FlightOthers tells true for every request, status and row of headers (of the form's own reach). -/
namespace Go.Proofs.YtfmajangcbgooaaGreatDoor.Pure
open Go.RowKit Go.Proofs.YtfmajangcbgooaaGreatDoor.Pr Go.Proofs.YtfmajangcbgooaaGreatDoorW.PrintWords Go.Proofs.YtfmajangcbgooaaGreatDoorW.PrintLast
set_option linter.unusedVariables false
set_option linter.unusedSimpArgs false

theorem lowv_f (x n : Int) (hn : 1 ≤ n) (hn2 : n ≤ 1000000) : ∃ v, lockkeeperlaw0_Low.f x n = some v ∧ 0 ≤ v ∧ v < n := by
  unfold lockkeeperlaw0_Low.f
  have e : IntKind.u64.wrap n = n := by rw [IntKind.wrap_u64]; omega
  rw [e, if_neg (by omega)]
  have h1 : 0 ≤ IntKind.u64.wrap x := by rw [IntKind.wrap_u64]; omega
  generalize IntKind.u64.wrap x = y at h1
  rw [Int.tmod_eq_emod_of_nonneg h1]
  have h3 := Int.emod_nonneg y (show n ≠ 0 by omega)
  have h4 := Int.emod_lt_of_pos y (show 0 < n by omega)
  have h2 : wrap64 (y % n) = y % n := by unfold wrap64; omega
  exact ⟨_, rfl, by omega, by omega⟩
def sPre : ByteArray := (⟨#[97, 99, 99, 101, 115, 115, 45, 99, 111, 110, 116, 114, 111, 108, 45, 97, 108, 108, 111, 119, 45]⟩ : ByteArray)
def askL : List ByteArray := [(⟨#[111, 114, 105, 103, 105, 110]⟩ : ByteArray), (⟨#[99, 114, 101, 100, 101, 110, 116, 105, 97, 108, 115]⟩ : ByteArray), (⟨#[109, 101, 116, 104, 111, 100, 115]⟩ : ByteArray), (⟨#[104, 101, 97, 100, 101, 114, 115]⟩ : ByteArray), ⟨#[]⟩]
def askedGo (s : ByteArray) : List ByteArray → Bool
  | [] => foldB s sAge
  | m :: r => if foldB s (sPre ++ m) = true then true else askedGo s r
theorem asked_l0 (s : ByteArray) (hs : s.size ≤ 9223372036854775807) : ∀ n i : Nat, i + n = 5 → Ev (fun k => lockkeeperlaw17_asked.l0 k s (i : Int)) (askedGo s (askL.drop i)) := by
  intro n
  induction n with
  | zero =>
    intro i hi
    rw [List.drop_of_length_le (by show 5 ≤ i; omega), askedGo]
    refine evSucc ?_
    simp only [lockkeeperlaw17_asked.l0]
    exact evNeg (by omega) (evBind (fold_f _ _ hs (by decide)) (Ev.now _))
  | succ n ih =>
    intro i hi
    have hlt : i < askL.length := by show i < 5; omega
    have e2 : wrap64 ((i : Int) + 1) = ((i + 1 : Nat) : Int) := by unfold wrap64; omega
    have hz : ∀ m ∈ askL, m.size ≤ 20 ∧ (sPre ++ m).size ≤ 50 := by decide +kernel
    have hm := hz _ (List.getElem_mem hlt)
    rw [List.drop_eq_getElem_cons hlt, askedGo]
    refine evSucc ?_
    have e3 : rdOf ByteArray.empty ([(⟨#[111, 114, 105, 103, 105, 110]⟩ : ByteArray), (⟨#[99, 114, 101, 100, 101, 110, 116, 105, 97, 108, 115]⟩ : ByteArray), (⟨#[109, 101, 116, 104, 111, 100, 115]⟩ : ByteArray), (⟨#[104, 101, 97, 100, 101, 114, 115]⟩ : ByteArray), (⟨#[]⟩ : ByteArray)] : List ByteArray) (i : Int) = askL[i] := rdOf_get _ _ hlt
    simp only [lockkeeperlaw17_asked.l0, e2, e3]
    refine evPos (by omega) (evPos (by omega) (evPos (by omega) (evBind (fold_f _ _ hs (by show (sPre ++ askL[i]).size ≤ _; omega)) ?_)))
    exact evIte (fun _ => Ev.now _) fun _ => ih (i + 1) (by omega)
theorem asked_not {s : ByteArray} (h : askedGo s askL = false) : foldB s sFrom = false ∧ foldB s sTrusts = false ∧ foldB s sMeths = false ∧ foldB s sHeads = false ∧ foldB s sAge = false := by
  have e1 : sPre ++ (⟨#[111, 114, 105, 103, 105, 110]⟩ : ByteArray) = sFrom := by decide +kernel
  have e2 : sPre ++ (⟨#[99, 114, 101, 100, 101, 110, 116, 105, 97, 108, 115]⟩ : ByteArray) = sTrusts := by decide +kernel
  have e3 : sPre ++ (⟨#[109, 101, 116, 104, 111, 100, 115]⟩ : ByteArray) = sMeths := by decide +kernel
  have e4 : sPre ++ (⟨#[104, 101, 97, 100, 101, 114, 115]⟩ : ByteArray) = sHeads := by decide +kernel
  simp only [askL, askedGo, e1, e2, e3, e4] at h
  cases h1 : foldB s sFrom with
  | true => rw [h1] at h; simp at h
  | false =>
    cases h2 : foldB s sTrusts with
    | true => rw [h1, h2] at h; simp at h
    | false =>
      cases h3 : foldB s sMeths with
      | true => rw [h1, h2, h3] at h; simp at h
      | false =>
        cases h4 : foldB s sHeads with
        | true => rw [h1, h2, h3, h4] at h; simp at h
        | false =>
          cases h5 : foldB s (sPre ++ ⟨#[]⟩) with
          | true => rw [h1, h2, h3, h4, h5] at h; simp at h
          | false =>
            rw [h1, h2, h3, h4, h5] at h
            exact ⟨rfl, rfl, rfl, rfl, by simpa using h⟩
theorem getS_other (a b : List Hd) (h : Hd) (n : ByteArray) (hf : foldB h.f0 n = false) : getS (a ++ h :: b) n = getS (a ++ b) n := by
  have e : vals (a ++ h :: b) n = vals (a ++ b) n := by
    unfold vals
    rw [List.filter_append, List.filter_append, List.filter_cons, if_neg (by simp [hf])]
  unfold getS
  rw [e]
theorem cors_congr {origin : ByteArray} {creds : Bool} {L M : List Hd} (h1 : getS L sFrom = getS M sFrom) (h2 : getS L sTrusts = getS M sTrusts) : corsS origin creds L = corsS origin creds M := by
  unfold corsS
  rw [h1, h2]
theorem read_congr {L M : List Hd} (h1 : getS L sMeths = getS M sMeths) (h2 : getS L sHeads = getS M sHeads) (h3 : getS L sAge = getS M sAge) : readS L = readS M := by
  unfold readS toksS
  rw [h1, h2, h3]
theorem HT_small {l : List Hd} (h : HSmall l) : HT l := ⟨by have := h.1; omega, fun x hx => by have := h.2 x hx; omega⟩
section
variable {m u o : ByteArray} {mode : Int} {creds : Bool} {l : List Hd} {cls tmo grp sig : Int} {status : Int} {L : List Hd} {n v : ByteArray} {at_ : Int}
theorem others_true : Ev (fun k => lockkeeperlaw17_FlightOthers.j0 k status L at_ true m u o mode creds l cls tmo grp sig n v) true := by
  refine evSucc ?_
  simp only [lockkeeperlaw17_FlightOthers.j0]
  exact evPos trivial (Ev.bind awake17_ev (Ev.now _))
theorem others_false (hR : RS m u o l) (hL : HSmall L) (hh : HSmall [(⟨n, v⟩ : Hd)]) (ha : askedGo n askL = false) : Ev (fun k => lockkeeperlaw17_FlightOthers.j0 k status L at_ false m u o mode creds l cls tmo grp sig n v) true := by
  have hl := hL.1
  obtain ⟨t, e, t0, t1⟩ := lowv_f at_ ((L.length : Int) + 1) (by omega) (by omega)
  obtain ⟨i, rfl⟩ := Int.eq_ofNat_of_zero_le t0
  have hi : i ≤ L.length := by omega
  have e2 : wrap64 ((L.length : Int) + 1) = (L.length : Int) + 1 := by unfold wrap64; omega
  have hM : HT (([] ++ L.take i) ++ [(⟨n, v⟩ : Hd)] ++ L.drop i) := by
    have h1 := HT_small hL
    have h2 := HT_small hh
    refine ⟨by simp; omega, fun x hx => ?_⟩
    simp only [List.nil_append, List.mem_append, List.mem_singleton] at hx
    rcases hx with (hx | hx) | hx
    · exact h1.2 x (List.mem_of_mem_take hx)
    · exact h2.2 x (by simp [hx])
    · exact h1.2 x (List.mem_of_mem_drop hx)
  obtain ⟨f1, f2, f3, f4, f5⟩ := asked_not ha
  have hg : ∀ name, foldB n name = false → getS (([] ++ L.take i) ++ [(⟨n, v⟩ : Hd)] ++ L.drop i) name = getS L name := by
    intro name hf
    have := getS_other (L.take i) (L.drop i) ⟨n, v⟩ name hf
    rw [List.take_append_drop] at this
    simpa using this
  have hj : judgeS m u o mode creds l cls tmo grp sig status (([] ++ L.take i) ++ [(⟨n, v⟩ : Hd)] ++ L.drop i) = judgeS m u o mode creds l cls tmo grp sig status L := by
    unfold judgeS statS
    rw [cors_congr (hg _ f1) (hg _ f2), read_congr (hg _ f3) (hg _ f4) (hg _ f5)]
  have hz := judge_len m u o mode creds l cls tmo grp sig status L (HT_small hL)
  refine evSucc ?_
  simp only [lockkeeperlaw17_FlightOthers.j0, e2]
  refine evNeg (by simp) (evBind e (evPos (by omega) (evPos (by omega) ?_)))
  simp only [Option.bind_some]
  rw [Int.toNat_natCast]
  refine evPos (by simp; omega) (evPos (by simp; omega) (evPos (by simp; omega) ?_))
  refine Ev.bind (judge_ev m u o mode creds l cls tmo grp sig status L hR (HT_small hL)) (Ev.bind (evEq (judge_ev m u o mode creds l cls tmo grp sig status _ hR hM) hj) ?_)
  exact Ev.bind (allow_refl _ _ _ hz.1 hz.2) (evPos rfl (evPos rfl (Ev.bind awake17_ev (Ev.now _))))
end
theorem FlightOthers : ∀ (x0 : S26) (a1 : Int) (l2 : List (S28)) (x3 : S28) (a4 : Int), (bT26 x0) → (Lit.int .i64 a1).wf = true → (l2.length ≤ maxLen ∧ ∀ x_ ∈ l2, bT28 x_) → (bT28 x3) → (Lit.int .i64 a4).wf = true → ∃ k, lockkeeperlaw17_FlightOthers.f k x0.f0 x0.f1 x0.f2 x0.f3 x0.f4 x0.f5 x0.f6 x0.f7 x0.f8 x0.f9 a1 l2 x3.f0 x3.f1 a4 = some true := by
  rintro ⟨m, u, o, mode, creds, l, cls, tmo, grp, sig⟩ status L ⟨n, v⟩ at_ _ _ _ _ _
  dsimp only
  refine Ev.rounds (g := fun k => lockkeeperlaw17_FlightOthers.f k m u o mode creds l cls tmo grp sig status L n v at_) ?_
  unfold lockkeeperlaw17_FlightOthers.f
  obtain ⟨b, hb, hB⟩ := greatR_ev m u o mode creds l cls tmo grp sig
  refine Ev.bind hb ?_
  cases b with
  | true => exact evPos rfl others_true
  | false =>
    obtain ⟨h1, h2, h3, h4⟩ := hB rfl
    have hR : RS m u o l := ⟨by omega, by omega, by omega, small_ok h4⟩
    obtain ⟨b2, hb2, hB2⟩ := great_ev L
    refine evNeg (by decide) (Ev.bind hb2 ?_)
    cases b2 with
    | true => exact evPos rfl others_true
    | false =>
      obtain ⟨b3, hb3, hB3⟩ := great_ev [(⟨n, v⟩ : Hd)]
      refine evNeg (by decide) (Ev.bind hb3 ?_)
      cases b3 with
      | true => exact evPos rfl others_true
      | false =>
        have hn := ((hB3 rfl).2 ⟨n, v⟩ (by simp)).1
        refine evNeg (by decide) (Ev.bind (asked_l0 n (by dsimp only at hn; omega) 5 0 rfl) ?_)
        show Ev (fun k => lockkeeperlaw17_FlightOthers.j0 k status L at_ (askedGo n askL) m u o mode creds l cls tmo grp sig n v) true
        cases ha : askedGo n askL with
        | true => exact others_true
        | false => exact others_false hR (hB2 rfl) (hB3 rfl) ha
end Go.Proofs.YtfmajangcbgooaaGreatDoor.Pure
namespace Go.Proofs.YtfmajangcbgooaaGreatDoor.flightOthers
open Go.ChangeShapes Go.WideShapes Go.ChangeAt Go.RowKit Go.Proofs.YtfmajangcbgooaaGreatDoorW.PrintWords Go.Proofs.YtfmajangcbgooaaGreatDoor.Pr
open Go.ChangeMaps (open_string shut_string)
set_option linter.unusedVariables false
theorem own : ownKnob Tryz.prog.godebug = none := by kernel_rfl
theorem laidOut : laidOutB Tryz.prog = true := by kernel_rfl
/-- A world for the witness: the settled one, the listed variables holding what they are laid with. -/
noncomputable def laidWorld (os : Os) : World :=
  let w0 := World.holding Tryz.prog os ⟨#[], #[], []⟩
  let put (h : Array Obj) (g : Nat) (cs : Array Value) : Array Obj := h.modify g fun
    | .cells _ t frozen => .cells cs t frozen
    | o => o
  let h1 := put w0.heap 4 #[Value.int .u8 0, Value.int .u8 1, Value.int .u8 28, Value.int .u8 2, Value.int .u8 29, Value.int .u8 14, Value.int .u8 24, Value.int .u8 3, Value.int .u8 30, Value.int .u8 22, Value.int .u8 20, Value.int .u8 15, Value.int .u8 25, Value.int .u8 17, Value.int .u8 4, Value.int .u8 8, Value.int .u8 31, Value.int .u8 27, Value.int .u8 13, Value.int .u8 23, Value.int .u8 21, Value.int .u8 19, Value.int .u8 16, Value.int .u8 7, Value.int .u8 26, Value.int .u8 12, Value.int .u8 18, Value.int .u8 6, Value.int .u8 11, Value.int .u8 5, Value.int .u8 10, Value.int .u8 9]
  let h2 := put h1 5 #[Value.int .u8 0, Value.int .u8 1, Value.int .u8 56, Value.int .u8 2, Value.int .u8 57, Value.int .u8 49, Value.int .u8 28, Value.int .u8 3, Value.int .u8 61, Value.int .u8 58, Value.int .u8 42, Value.int .u8 50, Value.int .u8 38, Value.int .u8 29, Value.int .u8 17, Value.int .u8 4, Value.int .u8 62, Value.int .u8 47, Value.int .u8 59, Value.int .u8 36, Value.int .u8 45, Value.int .u8 43, Value.int .u8 51, Value.int .u8 22, Value.int .u8 53, Value.int .u8 39, Value.int .u8 33, Value.int .u8 30, Value.int .u8 24, Value.int .u8 18, Value.int .u8 12, Value.int .u8 5, Value.int .u8 63, Value.int .u8 55, Value.int .u8 48, Value.int .u8 27, Value.int .u8 60, Value.int .u8 41, Value.int .u8 37, Value.int .u8 16, Value.int .u8 46, Value.int .u8 35, Value.int .u8 44, Value.int .u8 21, Value.int .u8 52, Value.int .u8 32, Value.int .u8 23, Value.int .u8 11, Value.int .u8 54, Value.int .u8 26, Value.int .u8 40, Value.int .u8 15, Value.int .u8 34, Value.int .u8 20, Value.int .u8 31, Value.int .u8 10, Value.int .u8 25, Value.int .u8 14, Value.int .u8 19, Value.int .u8 9, Value.int .u8 13, Value.int .u8 8, Value.int .u8 7, Value.int .u8 6]
  let h3 := put h2 1 #[Value.int .u64 1, Value.int .u64 10, Value.int .u64 100, Value.int .u64 1000, Value.int .u64 10000, Value.int .u64 100000, Value.int .u64 1000000, Value.int .u64 10000000, Value.int .u64 100000000, Value.int .u64 1000000000, Value.int .u64 10000000000, Value.int .u64 100000000000, Value.int .u64 1000000000000, Value.int .u64 10000000000000, Value.int .u64 100000000000000, Value.int .u64 1000000000000000, Value.int .u64 10000000000000000, Value.int .u64 100000000000000000, Value.int .u64 1000000000000000000, Value.int .u64 10000000000000000000]
  let h4 := put h3 3 #[Value.int .u8 128, Value.int .u8 191, Value.int .u8 160, Value.int .u8 191, Value.int .u8 128, Value.int .u8 159, Value.int .u8 144, Value.int .u8 191, Value.int .u8 128, Value.int .u8 143, Value.int .u8 0, Value.int .u8 0, Value.int .u8 0, Value.int .u8 0, Value.int .u8 0, Value.int .u8 0, Value.int .u8 0, Value.int .u8 0, Value.int .u8 0, Value.int .u8 0, Value.int .u8 0, Value.int .u8 0, Value.int .u8 0, Value.int .u8 0, Value.int .u8 0, Value.int .u8 0, Value.int .u8 0, Value.int .u8 0, Value.int .u8 0, Value.int .u8 0, Value.int .u8 0, Value.int .u8 0]
  let h5 := put h4 2 (Go.Pinned.utf8FirstZ.map fun (z : Nat) => Value.int .u8 (z : Int)).toArray
  { w0 with heap := h5 }
theorem laid_tab {W : World} (h : laidMetH Tryz.prog Rows.flightOthersRow.laid W) : Lib.TabIs Tryz.prog W "internal/strconv.uint64pow10" .u64 Lib.pow10Tab := by
  have h1 := (laidMetH_iff.1 h).1.filter (fun x => x.1 == "internal/strconv.uint64pow10")
  have e : ((Rows.flightOthersRow.laid.filter fun x => x.2.handleName?.isNone).filter fun x => x.1 == "internal/strconv.uint64pow10") = [("internal/strconv.uint64pow10", Lib.tabData .u64 Lib.pow10Tab)] := by kernel_rfl
  rw [e] at h1
  exact Lib.tabIs_of_head (g := 1) (by kernel_rfl) (by kernel_rfl) Tryz.underlying200 Tryz.underlying24 (by kernel_rfl) (by kernel_rfl) h1
theorem laid_met (os : Os) : laidMet Tryz.prog Rows.flightOthersRow.laid ((laidWorld os).forCall (fun _ _ => 0) ⟨#[], #[.agg #[.string ByteArray.empty, .string ByteArray.empty, .string ByteArray.empty, .int .i64 0, .bool false, .slice none 0 0, .int .i64 0, .int .u64 0, .int .i64 0, .int .i64 0], .int .i64 0, .slice none 0 0, .agg #[.string ByteArray.empty, .string ByteArray.empty], .int .i64 0], []⟩).memory :=
  laidMet_of_run' 8 (by kernel_rfl) (by kernel_rfl)
theorem witness_row (os : Os) {H : Type} (enc : TypeId × Value → H) :
    (OpenSpec.ofChange Rows.flightOthersSpec).preRow enc Tryz.prog Tryz.f8 Rows.flightOthersRow.domain false Rows.flightOthersRow.laid ((laidWorld os).forCall (fun _ _ => 0) ⟨#[], #[.agg #[.string ByteArray.empty, .string ByteArray.empty, .string ByteArray.empty, .int .i64 0, .bool false, .slice none 0 0, .int .i64 0, .int .u64 0, .int .i64 0, .int .i64 0], .int .i64 0, .slice none 0 0, .agg #[.string ByteArray.empty, .string ByteArray.empty], .int .i64 0], []⟩).memory #[.agg #[.string ByteArray.empty, .string ByteArray.empty, .string ByteArray.empty, .int .i64 0, .bool false, .slice none 0 0, .int .i64 0, .int .u64 0, .int .i64 0, .int .i64 0], .int .i64 0, .slice none 0 0, .agg #[.string ByteArray.empty, .string ByteArray.empty], .int .i64 0] := by
  have hw : (DataW.whole enc Tryz.prog ((laidWorld os).forCall (fun _ _ => 0) ⟨#[], #[.agg #[.string ByteArray.empty, .string ByteArray.empty, .string ByteArray.empty, .int .i64 0, .bool false, .slice none 0 0, .int .i64 0, .int .u64 0, .int .i64 0, .int .i64 0], .int .i64 0, .slice none 0 0, .agg #[.string ByteArray.empty, .string ByteArray.empty], .int .i64 0], []⟩).memory Tryz.f8.params.toList Rows.flightOthersSpec.vars false (#[.agg #[.string ByteArray.empty, .string ByteArray.empty, .string ByteArray.empty, .int .i64 0, .bool false, .slice none 0 0, .int .i64 0, .int .u64 0, .int .i64 0, .int .i64 0], .int .i64 0, .slice none 0 0, .agg #[.string ByteArray.empty, .string ByteArray.empty], .int .i64 0] : Array Value).toList 8).map (fun x => (x.1, x.2.1)) =
      some ([.agg [.lit (.string []), .lit (.string []), .lit (.string []), .lit (.int .i64 0), .lit (.bool false), .nil, .lit (.int .i64 0), .lit (.int .u64 0), .lit (.int .i64 0), .lit (.int .i64 0)], .lit (.int .i64 0), .nil, .agg [.lit (.string []), .lit (.string [])], .lit (.int .i64 0)], []) := by kernel_rfl
  obtain ⟨⟨x1, x2, x3⟩, hx, hx1⟩ := Option.map_eq_some_iff.1 hw
  simp only [Prod.mk.injEq] at hx1
  obtain ⟨rfl, rfl⟩ := hx1
  exact OpenSpec.preRow_of_cond 8 hx (by kernel_rfl) (fun k hk => by cases hk) (by kernel_rfl) (laid_met os)
set_option maxRecDepth 100000 in
theorem lifted (os : Os) (started : os.Started) (H : Type) (enc : TypeId × Value → H) (F : Stop.Interp) :
    ReturnsInHanded {} Tryz.checked os 8 .any ((OpenSpec.ofChange Rows.flightOthersSpec).preRow enc Tryz.prog Tryz.f8 Rows.flightOthersRow.domain false Rows.flightOthersRow.laid) (((OpenSpec.ofChange Rows.flightOthersSpec).at F).post enc Tryz.prog Tryz.f8 false true false false) := by
  refine returnsInHanded_of_row (C := Tryz.checked) (s := (OpenSpec.ofChange Rows.flightOthersSpec)) own started (by kernel_rfl) Tryz.func8
    (witness_row_atRef (enc := enc) (C := Tryz.checked) false (laidWorld os) #[.agg #[.string ByteArray.empty, .string ByteArray.empty, .string ByteArray.empty, .int .i64 0, .bool false, .slice none 0 0, .int .i64 0, .int .u64 0, .int .i64 0, .int .i64 0], .int .i64 0, .slice none 0 0, .agg #[.string ByteArray.empty, .string ByteArray.empty], .int .i64 0] rfl (by kernel_rfl) (by kernel_rfl) (by kernel_rfl) (witness_row os enc)) ?_
  intro W base args ds gs before hval0 hW hcnd hk0 hsz0 hL hsh0 _
  have hsz : (DataW.weightsEach Tryz.prog (Tryz.f8.params.toList ++ Rows.flightOthersSpec.plain.varTypes Tryz.prog) (ds ++ gs)).all (· ≤ reachBytes) = true := hsz0
  have hval : ∀ (j : Nat) t v, Tryz.f8.params[j]? = some t → args[j]? = some v → Value.okWide Tryz.prog W .any base t v := hval0
  have hW' := hW
  obtain ⟨p, q, hA0, hV, rfl, hfz, hnd⟩ := hW
  have hA : DataW.TrodAll enc Tryz.prog W 0 (fun _ => true) true Tryz.f8.params.toList args.toList ds p := hA0
  rw [Tryz.params8] at hA hval hsz
  obtain ⟨v0, vs0, d0, ds0, p0, q0, hargs, rfl, rfl, h0, r0⟩ := trodAll_cons hA
  obtain ⟨v1, vs1, d1, ds1, p1, q1, rfl, rfl, rfl, h1, r1⟩ := trodAll_cons r0
  obtain ⟨v2, vs2, d2, ds2, p2, q2, rfl, rfl, rfl, h2, r2⟩ := trodAll_cons r1
  obtain ⟨v3, vs3, d3, ds3, p3, q3, rfl, rfl, rfl, h3, r3⟩ := trodAll_cons r2
  obtain ⟨v4, vs4, d4, ds4, p4, q4, rfl, rfl, rfl, h4, r4⟩ := trodAll_cons r3
  obtain ⟨rfl, rfl, rfl⟩ := trodAll_nil r4
  obtain rfl : args = #[v0, v1, v2, v3, v4] := by cases args; simp_all
  obtain ⟨rfl, rfl⟩ := trodVars_none hV
  have k0 := h0
  have lt0 : ∀ x ∈ p0, x.block < W.heap.size := by obtain ⟨m, hm⟩ := k0; exact DataW.trod_lt m _ _ _ hm
  obtain ⟨cs0, rfl, hz0⟩ := okWide_struct Tryz.underlying26 (hval 0 26 v0 rfl rfl)
  obtain ⟨x0, hk0, b0⟩ := opn_trod opnT26 h0
  obtain ⟨_, _, e0_, rfl, _, _, rfl, rfl, _, _, rfl, rfl, _, _, rfl, rfl, _, _, rfl, rfl, _, _, rfl, ⟨A0_5, c0_5, rfl, hc0_5, hr0_5⟩, _, _, rfl, rfl, _, _, rfl, rfl, _, _, rfl, rfl, rfl⟩ := hk0
  obtain rfl : cs0 = #[.string x0.f0, .string x0.f1, .string x0.f2, .int .i64 x0.f3, .bool x0.f4, .slice A0_5 x0.f5.length c0_5, .int .i64 x0.f6, .int .u64 x0.f7, .int .i64 x0.f8, .int .i64 x0.f9] := by cases cs0; simpa [Value.cells] using e0_
  obtain ⟨a1, rfl, rfl, rfl, b1⟩ := open_int Tryz.underlying3 (hval 1 3 v1 rfl rfl) h1
  have k2 := h2
  have lt2 : ∀ x ∈ p2, x.block < W.heap.size := by obtain ⟨m, hm⟩ := k2; exact DataW.trod_lt m _ _ _ hm
  obtain ⟨A2, n2, c2, rfl⟩ := okWide_slice Tryz.underlying23 (hval 2 23 v2 rfl rfl)
  obtain ⟨l2, rfl, hr2, hc2, b2⟩ := opn_slice_arg (opn_slice 28 Tryz.underlying23 (by kernel_rfl) opnT28) h2
  have k3 := h3
  have lt3 : ∀ x ∈ p3, x.block < W.heap.size := by obtain ⟨m, hm⟩ := k3; exact DataW.trod_lt m _ _ _ hm
  obtain ⟨cs3, rfl, hz3⟩ := okWide_struct Tryz.underlying28 (hval 3 28 v3 rfl rfl)
  obtain ⟨x3, hk3, b3⟩ := opn_trod opnT28 h3
  have e3 := k28_open hk3
  obtain rfl : cs3 = #[.string x3.f0, .string x3.f1] := by cases cs3; simpa [Value.cells] using e3
  obtain ⟨a4, rfl, rfl, rfl, b4⟩ := open_int Tryz.underlying3 (hval 4 3 v4 rfl rfl) h4
  clear hA0 hval0 hsz0 hsz
  obtain ⟨kk, hp⟩ := Pure.FlightOthers x0 a1 l2 x3 a4 b0 b1 b2 b3 b4
  have hM_ : Aside0 (Pr.LaidW W) := ⟨Go.Proofs.cell_of_shapedOpen_int (zero := #[.int .i64 0]) (t := 3) hsh0 (of_decide_eq_true (by kernel_rfl)) (by kernel_rfl) rfl (by kernel_rfl) (by kernel_rfl) Tryz.underlying3, laid_tab hL⟩
  refine (lockkeeperlaw17_FlightOthers.calls (k := kk) (a0_0 := x0.f0) (a0_1 := x0.f1) (a0_2 := x0.f2) (a0_3 := x0.f3) (a0_4 := x0.f4) (A0_5 := A0_5) (c0_5 := c0_5) (l0_5 := x0.f5) (a0_6 := x0.f6) (a0_7 := x0.f7) (a0_8 := x0.f8) (a0_9 := x0.f9) (a1 := a1) (A2 := A2) (c2 := c2) (l2 := l2) (a3_0 := x3.f0) (a3_1 := x3.f1) (a4 := a4) (r := true) (w := W) (hr0_5 := hr0_5) (hc0_5 := hc0_5) (hr2 := hr2) (hc2 := hc2) (hM_ := hM_) (hr_ := rfl) (h := hp)).mono fun e W' ⟨he, hbel⟩ => ?_
  have bel : Below W.heap.size W W' := hbel
  subst he
  exact ⟨_, rfl, _, _, _, [], _, [], hW', trodAll_mk1 (shut_bool Tryz.underlying4 _), (trodAll_cons_mk (Below.trod laidOut (by kernel_rfl) (of_decide_eq_true (by kernel_rfl)) k0 bel lt0) (trodAll_cons_mk (shut_int Tryz.underlying3 b1) (trodAll_cons_mk (Below.trod laidOut (by kernel_rfl) (of_decide_eq_true (by kernel_rfl)) k2 bel lt2) (trodAll_cons_mk (Below.trod laidOut (by kernel_rfl) (of_decide_eq_true (by kernel_rfl)) k3 bel lt3) (trodAll_cons_mk (shut_int Tryz.underlying3 b4) trodAll_mk0))))), rfl, bel.frame _, fun h => by cases h⟩
theorem said : Rows.FlightOthersSaid :=
  OpenClaim.holds_of_cond 8 Tryz.f8 rfl rfl rfl rfl rfl rfl rfl ⟨rfl, rfl, rfl, rfl, rfl⟩ rfl rfl rfl rfl rfl (by kernel_rfl) Tryz.func8 (by kernel_rfl)
    (of_decide_eq_true (by kernel_rfl)) (by unfold Func.isWrapper; first | (rw [if_pos (by decide +kernel)]; kernel_rfl) | (rw [if_neg (by decide +kernel)]; exact ⟨rfl, rfl⟩))
    (fun os started H enc _ F => by rw [OpenClaim.pre_eq_preRow]; exact lifted os started H enc F)
theorem plain (f : FuncId) (fn : Func) (hf : Tryz.pinned.checked.prog.funcNamed Rows.flightOthersRow.func = some f) (hfn : Tryz.pinned.checked.prog.funcs[f]? = some fn) :
    false = Tryz.pinned.checked.prog.looks [] ∧ ∀ (j : Nat) t, fn.params[j]? = some t → Tryz.pinned.checked.prog.wantsStandIn t = false := by
  obtain rfl : f = 8 := Option.some.inj ((show Tryz.prog.funcNamed Rows.flightOthersRow.func = some 8 by kernel_rfl).symm.trans hf) |>.symm
  obtain rfl : fn = Tryz.f8 := (Option.some.inj (Tryz.func8.symm.trans hfn)).symm
  refine ⟨by kernel_rfl, fun j t ht => ?_⟩
  rw [Tryz.params8] at ht
  have hm := Array.mem_of_getElem? ht
  simp only [List.mem_toArray, List.mem_cons, List.not_mem_nil, or_false] at hm
  rcases hm with rfl | rfl | rfl | rfl | rfl
  · exact (show Tryz.prog.wantsStandIn 26 = false by kernel_rfl)
  · exact (show Tryz.prog.wantsStandIn 3 = false by kernel_rfl)
  · exact (show Tryz.prog.wantsStandIn 23 = false by kernel_rfl)
  · exact (show Tryz.prog.wantsStandIn 28 = false by kernel_rfl)
  · exact (show Tryz.prog.wantsStandIn 3 = false by kernel_rfl)
theorem card : Rows.FlightOthersCardSaid :=
  Claim7.holds_tied_plain_at .later [] _ _ _ _ said (fun _ h => by cases h) (by kernel_rfl) (fun _ h => by cases h) flightOthers_row_tie rfl ⟨rfl, rfl⟩ (by kernel_rfl) rfl plain (by kernel_rfl)
end Go.Proofs.YtfmajangcbgooaaGreatDoor.flightOthers
namespace Go.Proofs.YtfmajangcbgooaaGreatDoor
/-- The card, under a short name, for the claim. -/
theorem flightOthers_holds : Rows.FlightOthersCardSaid := flightOthers.card
end Go.Proofs.YtfmajangcbgooaaGreatDoor
