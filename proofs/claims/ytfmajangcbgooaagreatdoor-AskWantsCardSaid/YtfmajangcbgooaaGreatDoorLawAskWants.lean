/- The row of AskWants, out of its printed contract and its pure statement: for every input, with no condition. (Written by wip/xp/xrow.py.) -/
import Derived.Test.YtfmajangcbgooaaGreatDoorBAskWants
import Derived.Test.YtfmajangcbgooaaGreatDoorR1
import Derived.Test.YtfmajangcbgooaaGreatDoorPr16
import Derived.Test.YtfmajangcbgooaaGreatDoorRows
import Derived.WalkKit
import Derived.ProofKit
import Derived.OpenShut
import Derived.ShutString
import Derived.ChangeOld
import Derived.Below
import Derived.SizedLaws
import Derived.Carry
import Derived.LaidSub
import Derived.Shelf.Vars
import Derived.Test.YtfmajangcbgooaaGreatDoorCards
import Derived.Test.YtfmajangcbgooaaGreatDoorTie
import Derived.Deep.DeepHandedRow
import Derived.Deep.DeepWitnessRowRef
import Derived.Lib.LaidTab

/- The printed law AskWants tells true for every two requests (of the form's own reach). -/
namespace Go.Proofs.YtfmajangcbgooaaGreatDoor.Pure
open Go.RowKit Go.Proofs.YtfmajangcbgooaaGreatDoor.Pr Go.Proofs.YtfmajangcbgooaaGreatDoorW.PrintWords Go.Proofs.YtfmajangcbgooaaGreatDoorW.PrintLast
set_option linter.unusedVariables false
set_option linter.unusedSimpArgs false

section
variable {m u o m' u' o' : ByteArray} {mode mode' : Int} {creds creds' : Bool} {l l' : List Hd} {cls tmo grp sig cls' tmo' grp' sig' : Int}
theorem ba_list {a b : ByteArray} : (a.toList == b.toList) = decide (a = b) := by
  by_cases h : a = b
  · simp [h]
  · have : a.toList ≠ b.toList := fun e => h (ba_ext (by rw [tl, tl] at e; exact e))
    simp [h, this]
theorem ba_list' {a b : ByteArray} : (a.toList = b.toList) ↔ a = b := ⟨fun e => ba_ext (by rw [tl, tl] at e; exact e), fun e => by rw [e]⟩
def fiveS (m u o m' u' o' : ByteArray) (creds creds' : Bool) (l l' : List Hd) : Bool :=
  decide (toldO o = toldO o' ∧ toldU u = toldU u' ∧ creds = creds' ∧ mnormS m = mnormS m' ∧ snames l = snames l')
theorem wants_j1 (hR : RS m u o l) (hR' : RS m' u' o' l') (e : askS m u o mode l cls tmo grp sig = 0) (e' : askS m' u' o' mode' l' cls' tmo' grp' sig' = 0) :
    Ev (fun k => lockkeeperlaw8_AskWants.j1 k (fiveS m u o m' u' o' creds creds' l l') m u o mode creds l cls tmo grp sig m' u' o' mode' creds' l' cls' tmo' grp' sig') true := by
  have hw : wantR m u o mode creds l cls tmo grp sig = (toldO o, toldU u, creds, mnormS m, commaS (snames l)) := by
    unfold wantR cellR namesR
    rw [normR_ok e, if_pos e]
  have hw' : wantR m' u' o' mode' creds' l' cls' tmo' grp' sig' = (toldO o', toldU u', creds', mnormS m', commaS (snames l')) := by
    unfold wantR cellR namesR
    rw [normR_ok e', if_pos e']
  have hk : keyR m u o mode l cls tmo grp sig = keyS (tparseS u).1 (tparseS u).2.1 (tparseS u).2.2.1 := if_pos e
  have hk' : keyR m' u' o' mode' l' cls' tmo' grp' sig' = keyS (tparseS u').1 (tparseS u').2.1 (tparseS u').2.2.1 := if_pos e'
  have ht := snames_tok (field_parts0 (ask_parts0 e).2.2.1).2
  have ht' := snames_tok (field_parts0 (ask_parts0 e').2.2.1).2
  refine evSucc ?_
  simp only [lockkeeperlaw8_AskWants.j1]
  refine Ev.bind (evEq (want_ev m u o mode creds l cls tmo grp sig hR) hw) (Ev.bind (evEq (want_ev m' u' o' mode' creds' l' cls' tmo' grp' sig' hR') hw') (evPos ?_ ?_))
  · dsimp only
    rw [ba_list, ba_list, ba_list, ba_list]
    unfold fiveS
    have hc : (commaS (snames l) = commaS (snames l')) ↔ snames l = snames l' := ⟨comma_inj ht ht', fun h => by rw [h]⟩
    rw [beq_iff_eq, Bool.eq_iff_iff]
    simp only [Bool.and_eq_true, decide_eq_true_eq, beq_iff_eq, hc]
    constructor
    · rintro ⟨⟨h1, h2, h3⟩, h4, h5⟩
      exact ⟨h1, h2, h3, h4, h5⟩
    · rintro ⟨h1, h2, h3, h4, h5⟩
      exact ⟨⟨h1, h2, h3⟩, h4, h5⟩
  · refine Ev.bind (evEq (akey_ev m u o mode creds l cls tmo grp sig hR) hk) (Ev.bind (evEq (akey_ev m' u' o' mode' creds' l' cls' tmo' grp' sig' hR') hk') ?_)
    by_cases h : fiveS m u o m' u' o' creds creds' l l' = true
    · refine evPos ?_ (Ev.bind awake8_ev (Ev.now _))
      have h1 := (of_decide_eq_true h).2.1
      have h2 : tparseS u = tparseS u' := by rw [← toldU_parse (ask_parts0 e).1, ← toldU_parse (ask_parts0 e').1, h1]
      rw [h2]
    · by_cases hq : (keyS (tparseS u).1 (tparseS u).2.1 (tparseS u).2.2.1).toList = (keyS (tparseS u').1 (tparseS u').2.1 (tparseS u').2.2.1).toList
      · exact evPos hq (Ev.bind awake8_ev (Ev.now _))
      · exact evNeg hq (evNeg h (Ev.bind awake8_ev (Ev.now _)))
theorem wants_awake : Ev (fun k => lockkeeperlaw8_AskWants.j0 k true m u o mode creds l cls tmo grp sig m' u' o' mode' creds' l' cls' tmo' grp' sig') true := by
  refine evSucc ?_
  simp only [lockkeeperlaw8_AskWants.j0]
  exact evPos trivial (Ev.bind awake8_ev (Ev.now _))
theorem wants_j0 (hR : RS m u o l) (hR' : RS m' u' o' l') (e : askS m u o mode l cls tmo grp sig = 0) (e' : askS m' u' o' mode' l' cls' tmo' grp' sig' = 0) :
    Ev (fun k => lockkeeperlaw8_AskWants.j0 k false m u o mode creds l cls tmo grp sig m' u' o' mode' creds' l' cls' tmo' grp' sig') true := by
  have hj := wants_j1 (creds := creds) (creds' := creds') hR hR' e e'
  have hn : namesR m u o mode l cls tmo grp sig = snames l := if_pos e
  have hn' : namesR m' u' o' mode' l' cls' tmo' grp' sig' = snames l' := if_pos e'
  refine evSucc ?_
  simp only [lockkeeperlaw8_AskWants.j0]
  refine evNeg (by simp) (Ev.bind (evEq (anorm_ev m u o mode creds l cls tmo grp sig hR) (normR_ok e)) (Ev.bind (evEq (anorm_ev m' u' o' mode' creds' l' cls' tmo' grp' sig' hR') (normR_ok e')) ?_))
  dsimp only
  by_cases h1 : toldO o = toldO o'
  case neg =>
    refine evNeg (fun h => h1 (ba_list'.1 h)) ?_
    rwa [show fiveS m u o m' u' o' creds creds' l l' = false from decide_eq_false fun h => h1 h.1] at hj
  refine evPos (ba_list'.2 h1) ?_
  by_cases h2 : toldU u = toldU u'
  case neg =>
    refine evNeg (fun h => h2 (ba_list'.1 h)) ?_
    rwa [show fiveS m u o m' u' o' creds creds' l l' = false from decide_eq_false fun h => h2 h.2.1] at hj
  refine evPos (ba_list'.2 h2) ?_
  by_cases h3 : creds = creds'
  case neg =>
    refine evNeg (by simpa using h3) ?_
    rwa [show fiveS m u o m' u' o' creds creds' l l' = false from decide_eq_false fun h => h3 h.2.2.1] at hj
  refine evPos (by simpa using h3) ?_
  by_cases h4 : mnormS m = mnormS m'
  case neg =>
    refine evNeg (fun h => h4 (ba_list'.1 h)) ?_
    rwa [show fiveS m u o m' u' o' creds creds' l l' = false from decide_eq_false fun h => h4 h.2.2.2.1] at hj
  refine evPos (ba_list'.2 h4) ?_
  have hz := snames_size l hR.2.2.2
  refine Ev.bind (evEq (anames_ev m u o mode creds l cls tmo grp sig hR) hn) (Ev.bind (evEq (anames_ev m' u' o' mode' creds' l' cls' tmo' grp' sig' hR') hn') (Ev.bind (texts_ev _ _ (by omega)) ?_))
  rwa [show fiveS m u o m' u' o' creds creds' l l' = decide (snames l = snames l') by simp [fiveS, h1, h2, h3, h4]] at hj
end
theorem AskWants : ∀ (x0 : S26) (x1 : S26), (bT26 x0) → (bT26 x1) → ∃ k, lockkeeperlaw8_AskWants.f k x0.f0 x0.f1 x0.f2 x0.f3 x0.f4 x0.f5 x0.f6 x0.f7 x0.f8 x0.f9 x1.f0 x1.f1 x1.f2 x1.f3 x1.f4 x1.f5 x1.f6 x1.f7 x1.f8 x1.f9 = some true := by
  rintro ⟨m, u, o, mode, creds, l, cls, tmo, grp, sig⟩ ⟨m', u', o', mode', creds', l', cls', tmo', grp', sig'⟩ _ _
  dsimp only
  refine Ev.rounds (g := fun k => lockkeeperlaw8_AskWants.f k m u o mode creds l cls tmo grp sig m' u' o' mode' creds' l' cls' tmo' grp' sig') ?_
  unfold lockkeeperlaw8_AskWants.f
  obtain ⟨b, hb, hB⟩ := greatR_ev m u o mode creds l cls tmo grp sig
  obtain ⟨b', hb', hB'⟩ := greatR_ev m' u' o' mode' creds' l' cls' tmo' grp' sig'
  refine Ev.bind hb ?_
  cases b with
  | true => exact evPos rfl wants_awake
  | false =>
    refine evNeg (by decide) (Ev.bind hb' ?_)
    cases b' with
    | true => exact evPos rfl wants_awake
    | false =>
      obtain ⟨h1, h2, h3, h4⟩ := hB rfl
      obtain ⟨h1', h2', h3', h4'⟩ := hB' rfl
      have hR : RS m u o l := ⟨by omega, by omega, by omega, small_ok h4⟩
      have hR' : RS m' u' o' l' := ⟨by omega, by omega, by omega, small_ok h4'⟩
      refine evNeg (by decide) (Ev.bind (achk_ev m u o mode creds l cls tmo grp sig hR) ?_)
      by_cases e : askS m u o mode l cls tmo grp sig = 0
      case neg => exact evNeg e wants_awake
      refine evPos e (Ev.bind (achk_ev m' u' o' mode' creds' l' cls' tmo' grp' sig' hR') ?_)
      by_cases e' : askS m' u' o' mode' l' cls' tmo' grp' sig' = 0
      · rw [show (askS m' u' o' mode' l' cls' tmo' grp' sig' != 0) = false by simp [e']]
        exact wants_j0 hR hR' e e'
      · rw [show (askS m' u' o' mode' l' cls' tmo' grp' sig' != 0) = true by simp [e']]
        exact wants_awake
end Go.Proofs.YtfmajangcbgooaaGreatDoor.Pure
namespace Go.Proofs.YtfmajangcbgooaaGreatDoor.askWants
open Go.ChangeShapes Go.WideShapes Go.ChangeAt Go.RowKit Go.Proofs.YtfmajangcbgooaaGreatDoorW.PrintWords Go.Proofs.YtfmajangcbgooaaGreatDoor.Pr
open Go.ChangeMaps (open_string shut_string)
set_option linter.unusedVariables false
theorem own : ownKnob Tryz.prog.godebug = none := by kernel_rfl
theorem laidOut : laidOutB Tryz.prog = true := by kernel_rfl
/-- A world for the witness: the settled one, the listed variables holding what they are laid with. -/
noncomputable def laidWorld (os : Os) : World :=
  let w0 := World.holding Tryz.prog os ⟨#[], #[], []⟩
  let put (h : Array Obj) (g : Nat) (cs : Array Value) : Array Obj := h.modify g fun
    | .cells _ t frozen => .cells cs t frozen
    | o => o
  let h1 := put w0.heap 4 #[Value.int .u8 0, Value.int .u8 1, Value.int .u8 28, Value.int .u8 2, Value.int .u8 29, Value.int .u8 14, Value.int .u8 24, Value.int .u8 3, Value.int .u8 30, Value.int .u8 22, Value.int .u8 20, Value.int .u8 15, Value.int .u8 25, Value.int .u8 17, Value.int .u8 4, Value.int .u8 8, Value.int .u8 31, Value.int .u8 27, Value.int .u8 13, Value.int .u8 23, Value.int .u8 21, Value.int .u8 19, Value.int .u8 16, Value.int .u8 7, Value.int .u8 26, Value.int .u8 12, Value.int .u8 18, Value.int .u8 6, Value.int .u8 11, Value.int .u8 5, Value.int .u8 10, Value.int .u8 9]
  let h2 := put h1 5 #[Value.int .u8 0, Value.int .u8 1, Value.int .u8 56, Value.int .u8 2, Value.int .u8 57, Value.int .u8 49, Value.int .u8 28, Value.int .u8 3, Value.int .u8 61, Value.int .u8 58, Value.int .u8 42, Value.int .u8 50, Value.int .u8 38, Value.int .u8 29, Value.int .u8 17, Value.int .u8 4, Value.int .u8 62, Value.int .u8 47, Value.int .u8 59, Value.int .u8 36, Value.int .u8 45, Value.int .u8 43, Value.int .u8 51, Value.int .u8 22, Value.int .u8 53, Value.int .u8 39, Value.int .u8 33, Value.int .u8 30, Value.int .u8 24, Value.int .u8 18, Value.int .u8 12, Value.int .u8 5, Value.int .u8 63, Value.int .u8 55, Value.int .u8 48, Value.int .u8 27, Value.int .u8 60, Value.int .u8 41, Value.int .u8 37, Value.int .u8 16, Value.int .u8 46, Value.int .u8 35, Value.int .u8 44, Value.int .u8 21, Value.int .u8 52, Value.int .u8 32, Value.int .u8 23, Value.int .u8 11, Value.int .u8 54, Value.int .u8 26, Value.int .u8 40, Value.int .u8 15, Value.int .u8 34, Value.int .u8 20, Value.int .u8 31, Value.int .u8 10, Value.int .u8 25, Value.int .u8 14, Value.int .u8 19, Value.int .u8 9, Value.int .u8 13, Value.int .u8 8, Value.int .u8 7, Value.int .u8 6]
  let h3 := put h2 1 #[Value.int .u64 1, Value.int .u64 10, Value.int .u64 100, Value.int .u64 1000, Value.int .u64 10000, Value.int .u64 100000, Value.int .u64 1000000, Value.int .u64 10000000, Value.int .u64 100000000, Value.int .u64 1000000000, Value.int .u64 10000000000, Value.int .u64 100000000000, Value.int .u64 1000000000000, Value.int .u64 10000000000000, Value.int .u64 100000000000000, Value.int .u64 1000000000000000, Value.int .u64 10000000000000000, Value.int .u64 100000000000000000, Value.int .u64 1000000000000000000, Value.int .u64 10000000000000000000]
  let h4 := put h3 3 #[Value.int .u8 128, Value.int .u8 191, Value.int .u8 160, Value.int .u8 191, Value.int .u8 128, Value.int .u8 159, Value.int .u8 144, Value.int .u8 191, Value.int .u8 128, Value.int .u8 143, Value.int .u8 0, Value.int .u8 0, Value.int .u8 0, Value.int .u8 0, Value.int .u8 0, Value.int .u8 0, Value.int .u8 0, Value.int .u8 0, Value.int .u8 0, Value.int .u8 0, Value.int .u8 0, Value.int .u8 0, Value.int .u8 0, Value.int .u8 0, Value.int .u8 0, Value.int .u8 0, Value.int .u8 0, Value.int .u8 0, Value.int .u8 0, Value.int .u8 0, Value.int .u8 0, Value.int .u8 0]
  let h5 := put h4 2 (Go.Pinned.utf8FirstZ.map fun (z : Nat) => Value.int .u8 (z : Int)).toArray
  { w0 with heap := h5 }
theorem laid_tab {W : World} (h : laidMetH Tryz.prog Rows.askWantsRow.laid W) : Lib.TabIs Tryz.prog W "internal/strconv.uint64pow10" .u64 Lib.pow10Tab := by
  have h1 := (laidMetH_iff.1 h).1.filter (fun x => x.1 == "internal/strconv.uint64pow10")
  have e : ((Rows.askWantsRow.laid.filter fun x => x.2.handleName?.isNone).filter fun x => x.1 == "internal/strconv.uint64pow10") = [("internal/strconv.uint64pow10", Lib.tabData .u64 Lib.pow10Tab)] := by kernel_rfl
  rw [e] at h1
  exact Lib.tabIs_of_head (g := 1) (by kernel_rfl) (by kernel_rfl) Tryz.underlying200 Tryz.underlying24 (by kernel_rfl) (by kernel_rfl) h1
theorem laid_met (os : Os) : laidMet Tryz.prog Rows.askWantsRow.laid ((laidWorld os).forCall (fun _ _ => 0) ⟨#[], #[.agg #[.string ByteArray.empty, .string ByteArray.empty, .string ByteArray.empty, .int .i64 0, .bool false, .slice none 0 0, .int .i64 0, .int .u64 0, .int .i64 0, .int .i64 0], .agg #[.string ByteArray.empty, .string ByteArray.empty, .string ByteArray.empty, .int .i64 0, .bool false, .slice none 0 0, .int .i64 0, .int .u64 0, .int .i64 0, .int .i64 0]], []⟩).memory :=
  laidMet_of_run' 8 (by kernel_rfl) (by kernel_rfl)
theorem witness_row (os : Os) {H : Type} (enc : TypeId × Value → H) :
    (OpenSpec.ofChange Rows.askWantsSpec).preRow enc Tryz.prog Tryz.f7 Rows.askWantsRow.domain false Rows.askWantsRow.laid ((laidWorld os).forCall (fun _ _ => 0) ⟨#[], #[.agg #[.string ByteArray.empty, .string ByteArray.empty, .string ByteArray.empty, .int .i64 0, .bool false, .slice none 0 0, .int .i64 0, .int .u64 0, .int .i64 0, .int .i64 0], .agg #[.string ByteArray.empty, .string ByteArray.empty, .string ByteArray.empty, .int .i64 0, .bool false, .slice none 0 0, .int .i64 0, .int .u64 0, .int .i64 0, .int .i64 0]], []⟩).memory #[.agg #[.string ByteArray.empty, .string ByteArray.empty, .string ByteArray.empty, .int .i64 0, .bool false, .slice none 0 0, .int .i64 0, .int .u64 0, .int .i64 0, .int .i64 0], .agg #[.string ByteArray.empty, .string ByteArray.empty, .string ByteArray.empty, .int .i64 0, .bool false, .slice none 0 0, .int .i64 0, .int .u64 0, .int .i64 0, .int .i64 0]] := by
  have hw : (DataW.whole enc Tryz.prog ((laidWorld os).forCall (fun _ _ => 0) ⟨#[], #[.agg #[.string ByteArray.empty, .string ByteArray.empty, .string ByteArray.empty, .int .i64 0, .bool false, .slice none 0 0, .int .i64 0, .int .u64 0, .int .i64 0, .int .i64 0], .agg #[.string ByteArray.empty, .string ByteArray.empty, .string ByteArray.empty, .int .i64 0, .bool false, .slice none 0 0, .int .i64 0, .int .u64 0, .int .i64 0, .int .i64 0]], []⟩).memory Tryz.f7.params.toList Rows.askWantsSpec.vars false (#[.agg #[.string ByteArray.empty, .string ByteArray.empty, .string ByteArray.empty, .int .i64 0, .bool false, .slice none 0 0, .int .i64 0, .int .u64 0, .int .i64 0, .int .i64 0], .agg #[.string ByteArray.empty, .string ByteArray.empty, .string ByteArray.empty, .int .i64 0, .bool false, .slice none 0 0, .int .i64 0, .int .u64 0, .int .i64 0, .int .i64 0]] : Array Value).toList 8).map (fun x => (x.1, x.2.1)) =
      some ([.agg [.lit (.string []), .lit (.string []), .lit (.string []), .lit (.int .i64 0), .lit (.bool false), .nil, .lit (.int .i64 0), .lit (.int .u64 0), .lit (.int .i64 0), .lit (.int .i64 0)], .agg [.lit (.string []), .lit (.string []), .lit (.string []), .lit (.int .i64 0), .lit (.bool false), .nil, .lit (.int .i64 0), .lit (.int .u64 0), .lit (.int .i64 0), .lit (.int .i64 0)]], []) := by kernel_rfl
  obtain ⟨⟨x1, x2, x3⟩, hx, hx1⟩ := Option.map_eq_some_iff.1 hw
  simp only [Prod.mk.injEq] at hx1
  obtain ⟨rfl, rfl⟩ := hx1
  exact OpenSpec.preRow_of_cond 8 hx (by kernel_rfl) (fun k hk => by cases hk) (by kernel_rfl) (laid_met os)
set_option maxRecDepth 100000 in
theorem lifted (os : Os) (started : os.Started) (H : Type) (enc : TypeId × Value → H) (F : Stop.Interp) :
    ReturnsInHanded {} Tryz.checked os 7 .any ((OpenSpec.ofChange Rows.askWantsSpec).preRow enc Tryz.prog Tryz.f7 Rows.askWantsRow.domain false Rows.askWantsRow.laid) (((OpenSpec.ofChange Rows.askWantsSpec).at F).post enc Tryz.prog Tryz.f7 false true false false) := by
  refine returnsInHanded_of_row (C := Tryz.checked) (s := (OpenSpec.ofChange Rows.askWantsSpec)) own started (by kernel_rfl) Tryz.func7
    (witness_row_atRef (enc := enc) (C := Tryz.checked) false (laidWorld os) #[.agg #[.string ByteArray.empty, .string ByteArray.empty, .string ByteArray.empty, .int .i64 0, .bool false, .slice none 0 0, .int .i64 0, .int .u64 0, .int .i64 0, .int .i64 0], .agg #[.string ByteArray.empty, .string ByteArray.empty, .string ByteArray.empty, .int .i64 0, .bool false, .slice none 0 0, .int .i64 0, .int .u64 0, .int .i64 0, .int .i64 0]] rfl (by kernel_rfl) (by kernel_rfl) (by kernel_rfl) (witness_row os enc)) ?_
  intro W base args ds gs before hval0 hW hcnd hk0 hsz0 hL hsh0 _
  have hsz : (DataW.weightsEach Tryz.prog (Tryz.f7.params.toList ++ Rows.askWantsSpec.plain.varTypes Tryz.prog) (ds ++ gs)).all (· ≤ reachBytes) = true := hsz0
  have hval : ∀ (j : Nat) t v, Tryz.f7.params[j]? = some t → args[j]? = some v → Value.okWide Tryz.prog W .any base t v := hval0
  have hW' := hW
  obtain ⟨p, q, hA0, hV, rfl, hfz, hnd⟩ := hW
  have hA : DataW.TrodAll enc Tryz.prog W 0 (fun _ => true) true Tryz.f7.params.toList args.toList ds p := hA0
  rw [Tryz.params7] at hA hval hsz
  obtain ⟨v0, vs0, d0, ds0, p0, q0, hargs, rfl, rfl, h0, r0⟩ := trodAll_cons hA
  obtain ⟨v1, vs1, d1, ds1, p1, q1, rfl, rfl, rfl, h1, r1⟩ := trodAll_cons r0
  obtain ⟨rfl, rfl, rfl⟩ := trodAll_nil r1
  obtain rfl : args = #[v0, v1] := by cases args; simp_all
  obtain ⟨rfl, rfl⟩ := trodVars_none hV
  have k0 := h0
  have lt0 : ∀ x ∈ p0, x.block < W.heap.size := by obtain ⟨m, hm⟩ := k0; exact DataW.trod_lt m _ _ _ hm
  obtain ⟨cs0, rfl, hz0⟩ := okWide_struct Tryz.underlying26 (hval 0 26 v0 rfl rfl)
  obtain ⟨x0, hk0, b0⟩ := opn_trod opnT26 h0
  obtain ⟨_, _, e0_, rfl, _, _, rfl, rfl, _, _, rfl, rfl, _, _, rfl, rfl, _, _, rfl, rfl, _, _, rfl, ⟨A0_5, c0_5, rfl, hc0_5, hr0_5⟩, _, _, rfl, rfl, _, _, rfl, rfl, _, _, rfl, rfl, rfl⟩ := hk0
  obtain rfl : cs0 = #[.string x0.f0, .string x0.f1, .string x0.f2, .int .i64 x0.f3, .bool x0.f4, .slice A0_5 x0.f5.length c0_5, .int .i64 x0.f6, .int .u64 x0.f7, .int .i64 x0.f8, .int .i64 x0.f9] := by cases cs0; simpa [Value.cells] using e0_
  have k1 := h1
  have lt1 : ∀ x ∈ p1, x.block < W.heap.size := by obtain ⟨m, hm⟩ := k1; exact DataW.trod_lt m _ _ _ hm
  obtain ⟨cs1, rfl, hz1⟩ := okWide_struct Tryz.underlying26 (hval 1 26 v1 rfl rfl)
  obtain ⟨x1, hk1, b1⟩ := opn_trod opnT26 h1
  obtain ⟨_, _, e1_, rfl, _, _, rfl, rfl, _, _, rfl, rfl, _, _, rfl, rfl, _, _, rfl, rfl, _, _, rfl, ⟨A1_5, c1_5, rfl, hc1_5, hr1_5⟩, _, _, rfl, rfl, _, _, rfl, rfl, _, _, rfl, rfl, rfl⟩ := hk1
  obtain rfl : cs1 = #[.string x1.f0, .string x1.f1, .string x1.f2, .int .i64 x1.f3, .bool x1.f4, .slice A1_5 x1.f5.length c1_5, .int .i64 x1.f6, .int .u64 x1.f7, .int .i64 x1.f8, .int .i64 x1.f9] := by cases cs1; simpa [Value.cells] using e1_
  clear hA0 hval0 hsz0 hsz
  obtain ⟨kk, hp⟩ := Pure.AskWants x0 x1 b0 b1
  have hM_ : Aside0 (Pr.LaidW W) := ⟨Go.Proofs.cell_of_shapedOpen_int (zero := #[.int .i64 0]) (t := 3) hsh0 (of_decide_eq_true (by kernel_rfl)) (by kernel_rfl) rfl (by kernel_rfl) (by kernel_rfl) Tryz.underlying3, laid_tab hL⟩
  refine (lockkeeperlaw8_AskWants.calls (k := kk) (a0_0 := x0.f0) (a0_1 := x0.f1) (a0_2 := x0.f2) (a0_3 := x0.f3) (a0_4 := x0.f4) (A0_5 := A0_5) (c0_5 := c0_5) (l0_5 := x0.f5) (a0_6 := x0.f6) (a0_7 := x0.f7) (a0_8 := x0.f8) (a0_9 := x0.f9) (a1_0 := x1.f0) (a1_1 := x1.f1) (a1_2 := x1.f2) (a1_3 := x1.f3) (a1_4 := x1.f4) (A1_5 := A1_5) (c1_5 := c1_5) (l1_5 := x1.f5) (a1_6 := x1.f6) (a1_7 := x1.f7) (a1_8 := x1.f8) (a1_9 := x1.f9) (r := true) (w := W) (hr0_5 := hr0_5) (hc0_5 := hc0_5) (hr1_5 := hr1_5) (hc1_5 := hc1_5) (hM_ := hM_) (hr_ := rfl) (h := hp)).mono fun e W' ⟨he, hbel⟩ => ?_
  have bel : Below W.heap.size W W' := hbel
  subst he
  exact ⟨_, rfl, _, _, _, [], _, [], hW', trodAll_mk1 (shut_bool Tryz.underlying4 _), (trodAll_cons_mk (Below.trod laidOut (by kernel_rfl) (of_decide_eq_true (by kernel_rfl)) k0 bel lt0) (trodAll_cons_mk (Below.trod laidOut (by kernel_rfl) (of_decide_eq_true (by kernel_rfl)) k1 bel lt1) trodAll_mk0)), rfl, bel.frame _, fun h => by cases h⟩
theorem said : Rows.AskWantsSaid :=
  OpenClaim.holds_of_cond 7 Tryz.f7 rfl rfl rfl rfl rfl rfl rfl ⟨rfl, rfl, rfl, rfl, rfl⟩ rfl rfl rfl rfl rfl (by kernel_rfl) Tryz.func7 (by kernel_rfl)
    (of_decide_eq_true (by kernel_rfl)) (by unfold Func.isWrapper; first | (rw [if_pos (by decide +kernel)]; kernel_rfl) | (rw [if_neg (by decide +kernel)]; exact ⟨rfl, rfl⟩))
    (fun os started H enc _ F => by rw [OpenClaim.pre_eq_preRow]; exact lifted os started H enc F)
theorem plain (f : FuncId) (fn : Func) (hf : Tryz.pinned.checked.prog.funcNamed Rows.askWantsRow.func = some f) (hfn : Tryz.pinned.checked.prog.funcs[f]? = some fn) :
    false = Tryz.pinned.checked.prog.looks [] ∧ ∀ (j : Nat) t, fn.params[j]? = some t → Tryz.pinned.checked.prog.wantsStandIn t = false := by
  obtain rfl : f = 7 := Option.some.inj ((show Tryz.prog.funcNamed Rows.askWantsRow.func = some 7 by kernel_rfl).symm.trans hf) |>.symm
  obtain rfl : fn = Tryz.f7 := (Option.some.inj (Tryz.func7.symm.trans hfn)).symm
  refine ⟨by kernel_rfl, fun j t ht => ?_⟩
  rw [Tryz.params7] at ht
  have hm := Array.mem_of_getElem? ht
  simp only [List.mem_toArray, List.mem_cons, List.not_mem_nil, or_false] at hm
  rcases hm with rfl | rfl
  · exact (show Tryz.prog.wantsStandIn 26 = false by kernel_rfl)
  · exact (show Tryz.prog.wantsStandIn 26 = false by kernel_rfl)
theorem card : Rows.AskWantsCardSaid :=
  Claim7.holds_tied_plain_at .later [] _ _ _ _ said (fun _ h => by cases h) (by kernel_rfl) (fun _ h => by cases h) askWants_row_tie rfl ⟨rfl, rfl⟩ (by kernel_rfl) rfl plain (by kernel_rfl)
end Go.Proofs.YtfmajangcbgooaaGreatDoor.askWants
namespace Go.Proofs.YtfmajangcbgooaaGreatDoor
/-- The card, under a short name, for the claim. -/
theorem askWants_holds : Rows.AskWantsCardSaid := askWants.card
end Go.Proofs.YtfmajangcbgooaaGreatDoor
