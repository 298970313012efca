/- The row of FlightBuilds, out of its printed contract and its pure statement: for every input, with no condition. (Written by wip/xp/xrow.py.) -/
import Derived.Test.YtfmajangcbgooaaGreatDoorBFlightBuilds
import Derived.Test.YtfmajangcbgooaaGreatDoorR1
import Derived.Test.YtfmajangcbgooaaGreatDoorPr19
import Derived.Test.YtfmajangcbgooaaGreatDoorRows
import Derived.WalkKit
import Derived.ProofKit
import Derived.OpenShut
import Derived.ShutString
import Derived.ChangeOld
import Derived.Below
import Derived.SizedLaws
import Derived.Carry
import Derived.LaidSub
import Derived.Shelf.Vars
import Derived.Test.YtfmajangcbgooaaGreatDoorCards
import Derived.Test.YtfmajangcbgooaaGreatDoorTie
import Derived.Deep.DeepHandedRow
import Derived.Deep.DeepWitnessRowRef
import Derived.Lib.LaidTab

/- The printed law FlightBuilds tells true for every request (of the form's own reach). -/
namespace Go.Proofs.YtfmajangcbgooaaGreatDoor.Pure
open Go.RowKit Go.Proofs.YtfmajangcbgooaaGreatDoor.Pr Go.Proofs.YtfmajangcbgooaaGreatDoorW.PrintWords Go.Proofs.YtfmajangcbgooaaGreatDoorW.PrintLast
set_option linter.unusedVariables false
set_option linter.unusedSimpArgs false

theorem joinS_one (x : ByteArray) : joinS [x] = x := by
  unfold joinS joinB
  simp only [List.map_cons, List.map_nil, Lib.join, List.intercalate_singleton]
  exact bsOf_of x
theorem meth_tok {m : ByteArray} (h : methS m = 0) : tokS m = true ∧ m.size ≤ 32 := by
  unfold methS at h
  split at h
  · rename_i h1
    split at h
    · exact absurd h (by decide)
    · exact ⟨h1, by omega⟩
  · exact absurd h (by decide)
section
variable {M O : ByteArray} {names : List ByteArray}
theorem get_meth (hM : ∀ x ∈ M.data.toList, visC x) : getS (buildH M O names) (⟨#[65, 99, 99, 101, 115, 115, 45, 67, 111, 110, 116, 114, 111, 108, 45, 82, 101, 113, 117, 101, 115, 116, 45, 77, 101, 116, 104, 111, 100]⟩ : ByteArray) = (M, true) := by
  have e : vals (buildH M O names) (⟨#[65, 99, 99, 101, 115, 115, 45, 67, 111, 110, 116, 114, 111, 108, 45, 82, 101, 113, 117, 101, 115, 116, 45, 77, 101, 116, 104, 111, 100]⟩ : ByteArray) = [trimS M] := by
    unfold vals buildH namesH
    rw [List.filter_append, List.filter_append]
    have h1 : ([(⟨sAccept, sAny⟩ : Hd), ⟨sReqM, M⟩]).filter (fun h => foldB h.f0 (⟨#[65, 99, 99, 101, 115, 115, 45, 67, 111, 110, 116, 114, 111, 108, 45, 82, 101, 113, 117, 101, 115, 116, 45, 77, 101, 116, 104, 111, 100]⟩ : ByteArray)) = [(⟨sReqM, M⟩ : Hd)] := by
      rw [List.filter_cons, if_neg (by show ¬ foldB sAccept _ = true; decide +kernel), List.filter_cons, if_pos (by show foldB sReqM _ = true; decide +kernel)]
      rfl
    have h2 : ([(⟨sOrig, O⟩ : Hd)]).filter (fun h => foldB h.f0 (⟨#[65, 99, 99, 101, 115, 115, 45, 67, 111, 110, 116, 114, 111, 108, 45, 82, 101, 113, 117, 101, 115, 116, 45, 77, 101, 116, 104, 111, 100]⟩ : ByteArray)) = [] := by
      rw [List.filter_cons, if_neg (by show ¬ foldB sOrig _ = true; decide +kernel)]
      rfl
    have h3 : (if names.length > 0 then [(⟨sReqH, commaS names⟩ : Hd)] else []).filter (fun h => foldB h.f0 (⟨#[65, 99, 99, 101, 115, 115, 45, 67, 111, 110, 116, 114, 111, 108, 45, 82, 101, 113, 117, 101, 115, 116, 45, 77, 101, 116, 104, 111, 100]⟩ : ByteArray)) = [] := by
      split
      · rw [List.filter_cons, if_neg (by show ¬ foldB sReqH _ = true; decide +kernel)]
        rfl
      · rfl
    rw [h1, h2, h3]
    rfl
  unfold getS
  rw [e, trim_vis hM, joinS_one]
  rfl
theorem get_heads (hN : ∀ x ∈ names, tokS x = true) : getS (buildH M O names) (⟨#[97, 99, 99, 101, 115, 115, 45, 99, 111, 110, 116, 114, 111, 108, 45, 114, 101, 113, 117, 101, 115, 116, 45, 104, 101, 97, 100, 101, 114, 115]⟩ : ByteArray) = (commaS names, decide ((names.length : Int) > 0)) := by
  have h1 : ([(⟨sAccept, sAny⟩ : Hd), ⟨sReqM, M⟩]).filter (fun h => foldB h.f0 (⟨#[97, 99, 99, 101, 115, 115, 45, 99, 111, 110, 116, 114, 111, 108, 45, 114, 101, 113, 117, 101, 115, 116, 45, 104, 101, 97, 100, 101, 114, 115]⟩ : ByteArray)) = [] := by
    rw [List.filter_cons, if_neg (by show ¬ foldB sAccept _ = true; decide +kernel), List.filter_cons, if_neg (by show ¬ foldB sReqM _ = true; decide +kernel)]
    rfl
  have h2 : ([(⟨sOrig, O⟩ : Hd)]).filter (fun h => foldB h.f0 (⟨#[97, 99, 99, 101, 115, 115, 45, 99, 111, 110, 116, 114, 111, 108, 45, 114, 101, 113, 117, 101, 115, 116, 45, 104, 101, 97, 100, 101, 114, 115]⟩ : ByteArray)) = [] := by
    rw [List.filter_cons, if_neg (by show ¬ foldB sOrig _ = true; decide +kernel)]
    rfl
  by_cases hp : names.length > 0
  · have e : vals (buildH M O names) (⟨#[97, 99, 99, 101, 115, 115, 45, 99, 111, 110, 116, 114, 111, 108, 45, 114, 101, 113, 117, 101, 115, 116, 45, 104, 101, 97, 100, 101, 114, 115]⟩ : ByteArray) = [trimS (commaS names)] := by
      unfold vals buildH namesH
      rw [List.filter_append, List.filter_append, h1, h2, if_pos hp, List.filter_cons, if_pos (by show foldB sReqH _ = true; decide +kernel)]
      rfl
    unfold getS
    rw [e, trim_vis (comma_vis hN), joinS_one]
    simp [hp]
  · have e : vals (buildH M O names) (⟨#[97, 99, 99, 101, 115, 115, 45, 99, 111, 110, 116, 114, 111, 108, 45, 114, 101, 113, 117, 101, 115, 116, 45, 104, 101, 97, 100, 101, 114, 115]⟩ : ByteArray) = [] := by
      unfold vals buildH namesH
      rw [List.filter_append, List.filter_append, h1, h2, if_neg hp]
      rfl
    have hn : names = [] := List.eq_nil_of_length_eq_zero (by omega)
    unfold getS
    rw [e, hn]
    rfl
end
theorem commaS_size (L : List ByteArray) (n : Nat) (h : ∀ x ∈ L, x.size ≤ n) : (commaS L).size ≤ L.length * (n + 1) := by
  have h1 := join_le ([44] : List UInt8) n (L.map fun x => x.data.toList) (by
    intro x hm
    obtain ⟨y, hy, rfl⟩ := List.mem_map.1 hm
    have := h y hy
    rw [size_len] at this
    exact this)
  rw [List.length_map] at h1
  rw [size_len, commaS_data]
  exact h1
theorem names_small {l : List Hd} (h : checkS l = 0) : (snames l).length ≤ 32 ∧ ∀ x ∈ snames l, x.size ≤ 64 := by
  have hl := snames_length l
  unfold checkS at h
  split at h
  · exact absurd h (by decide)
  · rename_i h0
    refine ⟨by omega, fun x hx => ?_⟩
    have h1 := snames_sub l x hx
    rw [namesS_mem] at h1
    obtain ⟨a, hm, e⟩ := h1
    split at h
    · rename_i hall
      have := List.all_eq_true.1 hall a hm
      unfold goodH isHS at this
      split at this
      · split at this
        · rw [← e, lowB_size]; omega
        · cases this
      · cases this
    · exact absurd h (by decide)
theorem good_vis {n v : ByteArray} (hn : tokS n = true) (hs : n.size ≤ 64) (hv : ∀ x ∈ v.data.toList, visC x) (hz : v.size ≤ 4096) : goodH ⟨n, v⟩ = true := by
  unfold goodH isHS
  dsimp only
  rw [if_pos hn, if_pos (by omega), trim_vis hv, if_pos (by omega), line_vis hv]
  rfl
theorem check_build {M O : ByteArray} {names : List ByteArray} (hM : tokS M = true) (hMs : M.size ≤ 32) (hO : ∀ x ∈ O.data.toList, visC x) (hOs : O.size ≤ 1000) (hN : ∀ x ∈ names, tokS x = true) (hn : names.length ≤ 32 ∧ ∀ x ∈ names, x.size ≤ 64) : checkS (buildH M O names) = 0 := by
  have hc := commaS_size names 64 hn.2
  have hc2 : names.length * (64 + 1) ≤ 32 * 65 := Nat.mul_le_mul hn.1 (Nat.le_refl _)
  have h1 : goodH ⟨sAccept, sAny⟩ = true := good_vis (by decide +kernel) (by decide) (by intro x hx; unfold visC; revert x; decide) (by decide)
  have h2 : goodH ⟨sReqM, M⟩ = true := good_vis (by decide +kernel) (by decide) (tok_vis hM) (by omega)
  have h3 : goodH ⟨sOrig, O⟩ = true := good_vis (by decide +kernel) (by decide) hO (by omega)
  have h4 : goodH ⟨sReqH, commaS names⟩ = true := good_vis (by decide +kernel) (by decide) (comma_vis hN) (by omega)
  unfold checkS buildH namesH
  split
  · rw [if_neg (by simp), if_pos (by simp [h1, h2, h3, h4])]
  · rw [if_neg (by simp), if_pos (by simp [h1, h2, h3])]
theorem FlightBuilds : ∀ (x0 : S26), (bT26 x0) → ∃ k, lockkeeperlaw17_FlightBuilds.f k x0.f0 x0.f1 x0.f2 x0.f3 x0.f4 x0.f5 x0.f6 x0.f7 x0.f8 x0.f9 = some true := by
  rintro ⟨m, u, o, mode, creds, l, cls, tmo, grp, sig⟩ _
  dsimp only
  refine Ev.rounds (g := fun k => lockkeeperlaw17_FlightBuilds.f k m u o mode creds l cls tmo grp sig) ?_
  unfold lockkeeperlaw17_FlightBuilds.f
  obtain ⟨b, hb, hB⟩ := greatR_ev m u o mode creds l cls tmo grp sig
  refine Ev.bind hb ?_
  cases b with
  | true => exact evPos rfl (Ev.bind awake17_ev (Ev.now _))
  | false =>
    obtain ⟨h1, h2, h3, h4⟩ := hB rfl
    have hR : RS m u o l := ⟨by omega, by omega, by omega, small_ok h4⟩
    refine evNeg (by decide) (Ev.bind (build_ev m u o mode creds l cls tmo grp sig hR) (Ev.bind (needs_ev m u o mode creds l cls tmo grp sig hR) ?_))
    by_cases hn : needsS m u o mode l cls tmo grp sig = true
    · have e := needs_ask hn
      obtain ⟨p1, p2, p3, p4⟩ := ask_parts0 e
      obtain ⟨q1, q2⟩ := field_parts0 p3
      have hM := meth_tok (meth_norm m q1)
      have hN := snames_tok q2
      have hns := names_small q2
      have hchk : chkS (parseS o).1 (parseS o).2.1 (parseS o).2.2.1 = true := by rw [← parse_code o, p2]; rfl
      have hO : ∀ x ∈ (toldO o).data.toList, visC x := show_vis hchk
      have hOs : (toldO o).size ≤ 1000 := showS_size _ _ _
      have hUs := toldU_size p1
      have hck := check_build hM.1 hM.2 hO hOs hN hns
      have hbR : RS sOpts (toldU u) (toldO o) (buildH (mnormS m) (toldO o) (snames l)) := by
        refine ⟨by decide, by omega, hOs, ?_⟩
        have hc := commaS_size (snames l) 64 hns.2
        have hc2 : (snames l).length * (64 + 1) ≤ 32 * 65 := Nat.mul_le_mul hns.1 (Nat.le_refl _)
        have hM2 := hM.2
        refine ⟨by unfold buildH namesH; split <;> simp, fun x hx => ?_⟩
        unfold buildH namesH at hx
        have a1 : sAccept.size ≤ 64 ∧ sAny.size ≤ 64 ∧ sReqM.size ≤ 64 ∧ sReqH.size ≤ 64 ∧ sOrig.size ≤ 64 := by decide
        split at hx
        all_goals
          simp only [List.cons_append, List.nil_append, List.append_nil, List.mem_cons, List.not_mem_nil, or_false] at hx
        · rcases hx with rfl | rfl | rfl | rfl <;> (dsimp only; omega)
        · rcases hx with rfl | rfl | rfl <;> (dsimp only; omega)
      have hf : fieldS m mode l cls tmo grp sig = 0 := p3
      have hbe : askS sOpts (toldU u) (toldO o) 3 (buildH (mnormS m) (toldO o) (snames l)) cls tmo grp sig = 0 := by
        have hfb : fieldS sOpts 3 (buildH (mnormS m) (toldO o) (snames l)) cls tmo grp sig = 0 := by
          unfold fieldS at hf ⊢
          rw [q1, if_pos rfl] at hf
          rw [show methS sOpts = 0 by decide +kernel, if_pos rfl, show modeS 3 = true by decide, if_pos rfl, hck, if_pos rfl]
          split at hf
          · exact hf
          · exact absurd hf (by decide)
        unfold askS
        rw [toldU_parse p1, toldO_parse p2, if_pos p1, if_pos p2, if_pos hfb]
        rfl
      have hbn : normR sOpts (toldU u) (toldO o) 3 false (buildH (mnormS m) (toldO o) (snames l)) cls tmo grp sig = (sOpts, toldU u, toldO o, 3, false, normS (buildH (mnormS m) (toldO o) (snames l)), cls, tmo, grp, sig) := by
        rw [normR_ok hbe]
        have e1 := toldU_parse p1
        have e2 := toldO_parse p2
        have e3 : mnormS sOpts = sOpts := by decide +kernel
        unfold toldU toldO at *
        rw [e1, e2, e3]
      have hcell : cellR sOpts (toldU u) (toldO o) 3 false (buildH (mnormS m) (toldO o) (snames l)) cls tmo grp sig = (toldO o, toldU u, false) := by
        unfold cellR
        rw [hbn]
      have hcell' : cellR m u o mode creds l cls tmo grp sig = (toldO o, toldU u, creds) := by
        unfold cellR
        rw [normR_ok e]
      have hnm : namesR m u o mode l cls tmo grp sig = snames l := if_pos e
      have hw : wantR m u o mode creds l cls tmo grp sig = (toldO o, toldU u, creds, mnormS m, commaS (snames l)) := by
        unfold wantR
        rw [hcell', normR_ok e, hnm]
      have hk : keyR sOpts (toldU u) (toldO o) 3 (buildH (mnormS m) (toldO o) (snames l)) cls tmo grp sig = keyR m u o mode l cls tmo grp sig := by
        unfold keyR
        rw [if_pos hbe, if_pos e, toldU_parse p1]
      rw [show buildR m u o mode l cls tmo grp sig = _ from if_pos hn]
      refine evPos hn ?_
      dsimp only
      refine Ev.bind (evEq (acell_ev _ _ _ _ _ _ _ _ _ _ hbR) hcell) (Ev.bind (evEq (acell_ev m u o mode creds l cls tmo grp sig hR) hcell') ?_)
      refine Ev.bind (evEq (get_ev _ _ hbR.2.2.2 (by decide)) (get_meth (tok_vis hM.1))) (Ev.bind (evEq (get_ev _ _ hbR.2.2.2 (by decide)) (get_heads hN)) ?_)
      refine Ev.bind (achk_ev _ _ _ 3 false _ cls tmo grp sig hbR) (evPos hbe (evPos rfl (evPos rfl (evNeg (by decide) (evPos rfl ?_)))))
      refine Ev.bind (evEq (anorm_ev m u o mode creds l cls tmo grp sig hR) (normR_ok e)) (evPos rfl ?_)
      refine Ev.bind (evEq (anames_ev m u o mode creds l cls tmo grp sig hR) hnm) (evPos (by simp) ?_)
      refine Ev.bind (evEq (want_ev m u o mode creds l cls tmo grp sig hR) hw) (evPos rfl ?_)
      exact Ev.bind (evEq (akey_ev _ _ _ 3 false _ cls tmo grp sig hbR) hk) (Ev.bind (akey_ev m u o mode creds l cls tmo grp sig hR) (evPos rfl (Ev.bind awake17_ev (Ev.now _))))
    · rw [show buildR m u o mode l cls tmo grp sig = noR from if_neg hn]
      refine evNeg hn ?_
      unfold noR
      dsimp only
      exact Ev.bind (req_refl _ _ _ _ _ _ _ _ _ _ (by simp)) (evPos rfl (Ev.bind awake17_ev (Ev.now _)))
end Go.Proofs.YtfmajangcbgooaaGreatDoor.Pure
namespace Go.Proofs.YtfmajangcbgooaaGreatDoor.flightBuilds
open Go.ChangeShapes Go.WideShapes Go.ChangeAt Go.RowKit Go.Proofs.YtfmajangcbgooaaGreatDoorW.PrintWords Go.Proofs.YtfmajangcbgooaaGreatDoor.Pr
open Go.ChangeMaps (open_string shut_string)
set_option linter.unusedVariables false
theorem own : ownKnob Tryz.prog.godebug = none := by kernel_rfl
theorem laidOut : laidOutB Tryz.prog = true := by kernel_rfl
/-- A world for the witness: the settled one, the listed variables holding what they are laid with. -/
noncomputable def laidWorld (os : Os) : World :=
  let w0 := World.holding Tryz.prog os ⟨#[], #[], []⟩
  let put (h : Array Obj) (g : Nat) (cs : Array Value) : Array Obj := h.modify g fun
    | .cells _ t frozen => .cells cs t frozen
    | o => o
  let h1 := put w0.heap 4 #[Value.int .u8 0, Value.int .u8 1, Value.int .u8 28, Value.int .u8 2, Value.int .u8 29, Value.int .u8 14, Value.int .u8 24, Value.int .u8 3, Value.int .u8 30, Value.int .u8 22, Value.int .u8 20, Value.int .u8 15, Value.int .u8 25, Value.int .u8 17, Value.int .u8 4, Value.int .u8 8, Value.int .u8 31, Value.int .u8 27, Value.int .u8 13, Value.int .u8 23, Value.int .u8 21, Value.int .u8 19, Value.int .u8 16, Value.int .u8 7, Value.int .u8 26, Value.int .u8 12, Value.int .u8 18, Value.int .u8 6, Value.int .u8 11, Value.int .u8 5, Value.int .u8 10, Value.int .u8 9]
  let h2 := put h1 5 #[Value.int .u8 0, Value.int .u8 1, Value.int .u8 56, Value.int .u8 2, Value.int .u8 57, Value.int .u8 49, Value.int .u8 28, Value.int .u8 3, Value.int .u8 61, Value.int .u8 58, Value.int .u8 42, Value.int .u8 50, Value.int .u8 38, Value.int .u8 29, Value.int .u8 17, Value.int .u8 4, Value.int .u8 62, Value.int .u8 47, Value.int .u8 59, Value.int .u8 36, Value.int .u8 45, Value.int .u8 43, Value.int .u8 51, Value.int .u8 22, Value.int .u8 53, Value.int .u8 39, Value.int .u8 33, Value.int .u8 30, Value.int .u8 24, Value.int .u8 18, Value.int .u8 12, Value.int .u8 5, Value.int .u8 63, Value.int .u8 55, Value.int .u8 48, Value.int .u8 27, Value.int .u8 60, Value.int .u8 41, Value.int .u8 37, Value.int .u8 16, Value.int .u8 46, Value.int .u8 35, Value.int .u8 44, Value.int .u8 21, Value.int .u8 52, Value.int .u8 32, Value.int .u8 23, Value.int .u8 11, Value.int .u8 54, Value.int .u8 26, Value.int .u8 40, Value.int .u8 15, Value.int .u8 34, Value.int .u8 20, Value.int .u8 31, Value.int .u8 10, Value.int .u8 25, Value.int .u8 14, Value.int .u8 19, Value.int .u8 9, Value.int .u8 13, Value.int .u8 8, Value.int .u8 7, Value.int .u8 6]
  let h3 := put h2 1 #[Value.int .u64 1, Value.int .u64 10, Value.int .u64 100, Value.int .u64 1000, Value.int .u64 10000, Value.int .u64 100000, Value.int .u64 1000000, Value.int .u64 10000000, Value.int .u64 100000000, Value.int .u64 1000000000, Value.int .u64 10000000000, Value.int .u64 100000000000, Value.int .u64 1000000000000, Value.int .u64 10000000000000, Value.int .u64 100000000000000, Value.int .u64 1000000000000000, Value.int .u64 10000000000000000, Value.int .u64 100000000000000000, Value.int .u64 1000000000000000000, Value.int .u64 10000000000000000000]
  let h4 := put h3 3 #[Value.int .u8 128, Value.int .u8 191, Value.int .u8 160, Value.int .u8 191, Value.int .u8 128, Value.int .u8 159, Value.int .u8 144, Value.int .u8 191, Value.int .u8 128, Value.int .u8 143, Value.int .u8 0, Value.int .u8 0, Value.int .u8 0, Value.int .u8 0, Value.int .u8 0, Value.int .u8 0, Value.int .u8 0, Value.int .u8 0, Value.int .u8 0, Value.int .u8 0, Value.int .u8 0, Value.int .u8 0, Value.int .u8 0, Value.int .u8 0, Value.int .u8 0, Value.int .u8 0, Value.int .u8 0, Value.int .u8 0, Value.int .u8 0, Value.int .u8 0, Value.int .u8 0, Value.int .u8 0]
  let h5 := put h4 2 (Go.Pinned.utf8FirstZ.map fun (z : Nat) => Value.int .u8 (z : Int)).toArray
  { w0 with heap := h5 }
theorem laid_tab {W : World} (h : laidMetH Tryz.prog Rows.flightBuildsRow.laid W) : Lib.TabIs Tryz.prog W "internal/strconv.uint64pow10" .u64 Lib.pow10Tab := by
  have h1 := (laidMetH_iff.1 h).1.filter (fun x => x.1 == "internal/strconv.uint64pow10")
  have e : ((Rows.flightBuildsRow.laid.filter fun x => x.2.handleName?.isNone).filter fun x => x.1 == "internal/strconv.uint64pow10") = [("internal/strconv.uint64pow10", Lib.tabData .u64 Lib.pow10Tab)] := by kernel_rfl
  rw [e] at h1
  exact Lib.tabIs_of_head (g := 1) (by kernel_rfl) (by kernel_rfl) Tryz.underlying200 Tryz.underlying24 (by kernel_rfl) (by kernel_rfl) h1
theorem laid_met (os : Os) : laidMet Tryz.prog Rows.flightBuildsRow.laid ((laidWorld os).forCall (fun _ _ => 0) ⟨#[], #[.agg #[.string ByteArray.empty, .string ByteArray.empty, .string ByteArray.empty, .int .i64 0, .bool false, .slice none 0 0, .int .i64 0, .int .u64 0, .int .i64 0, .int .i64 0]], []⟩).memory :=
  laidMet_of_run' 8 (by kernel_rfl) (by kernel_rfl)
theorem witness_row (os : Os) {H : Type} (enc : TypeId × Value → H) :
    (OpenSpec.ofChange Rows.flightBuildsSpec).preRow enc Tryz.prog Tryz.f10 Rows.flightBuildsRow.domain false Rows.flightBuildsRow.laid ((laidWorld os).forCall (fun _ _ => 0) ⟨#[], #[.agg #[.string ByteArray.empty, .string ByteArray.empty, .string ByteArray.empty, .int .i64 0, .bool false, .slice none 0 0, .int .i64 0, .int .u64 0, .int .i64 0, .int .i64 0]], []⟩).memory #[.agg #[.string ByteArray.empty, .string ByteArray.empty, .string ByteArray.empty, .int .i64 0, .bool false, .slice none 0 0, .int .i64 0, .int .u64 0, .int .i64 0, .int .i64 0]] := by
  have hw : (DataW.whole enc Tryz.prog ((laidWorld os).forCall (fun _ _ => 0) ⟨#[], #[.agg #[.string ByteArray.empty, .string ByteArray.empty, .string ByteArray.empty, .int .i64 0, .bool false, .slice none 0 0, .int .i64 0, .int .u64 0, .int .i64 0, .int .i64 0]], []⟩).memory Tryz.f10.params.toList Rows.flightBuildsSpec.vars false (#[.agg #[.string ByteArray.empty, .string ByteArray.empty, .string ByteArray.empty, .int .i64 0, .bool false, .slice none 0 0, .int .i64 0, .int .u64 0, .int .i64 0, .int .i64 0]] : Array Value).toList 8).map (fun x => (x.1, x.2.1)) =
      some ([.agg [.lit (.string []), .lit (.string []), .lit (.string []), .lit (.int .i64 0), .lit (.bool false), .nil, .lit (.int .i64 0), .lit (.int .u64 0), .lit (.int .i64 0), .lit (.int .i64 0)]], []) := by kernel_rfl
  obtain ⟨⟨x1, x2, x3⟩, hx, hx1⟩ := Option.map_eq_some_iff.1 hw
  simp only [Prod.mk.injEq] at hx1
  obtain ⟨rfl, rfl⟩ := hx1
  exact OpenSpec.preRow_of_cond 8 hx (by kernel_rfl) (fun k hk => by cases hk) (by kernel_rfl) (laid_met os)
set_option maxRecDepth 100000 in
theorem lifted (os : Os) (started : os.Started) (H : Type) (enc : TypeId × Value → H) (F : Stop.Interp) :
    ReturnsInHanded {} Tryz.checked os 10 .any ((OpenSpec.ofChange Rows.flightBuildsSpec).preRow enc Tryz.prog Tryz.f10 Rows.flightBuildsRow.domain false Rows.flightBuildsRow.laid) (((OpenSpec.ofChange Rows.flightBuildsSpec).at F).post enc Tryz.prog Tryz.f10 false true false false) := by
  refine returnsInHanded_of_row (C := Tryz.checked) (s := (OpenSpec.ofChange Rows.flightBuildsSpec)) own started (by kernel_rfl) Tryz.func10
    (witness_row_atRef (enc := enc) (C := Tryz.checked) false (laidWorld os) #[.agg #[.string ByteArray.empty, .string ByteArray.empty, .string ByteArray.empty, .int .i64 0, .bool false, .slice none 0 0, .int .i64 0, .int .u64 0, .int .i64 0, .int .i64 0]] rfl (by kernel_rfl) (by kernel_rfl) (by kernel_rfl) (witness_row os enc)) ?_
  intro W base args ds gs before hval0 hW hcnd hk0 hsz0 hL hsh0 _
  have hsz : (DataW.weightsEach Tryz.prog (Tryz.f10.params.toList ++ Rows.flightBuildsSpec.plain.varTypes Tryz.prog) (ds ++ gs)).all (· ≤ reachBytes) = true := hsz0
  have hval : ∀ (j : Nat) t v, Tryz.f10.params[j]? = some t → args[j]? = some v → Value.okWide Tryz.prog W .any base t v := hval0
  have hW' := hW
  obtain ⟨p, q, hA0, hV, rfl, hfz, hnd⟩ := hW
  have hA : DataW.TrodAll enc Tryz.prog W 0 (fun _ => true) true Tryz.f10.params.toList args.toList ds p := hA0
  rw [Tryz.params10] at hA hval hsz
  obtain ⟨v0, vs0, d0, ds0, p0, q0, hargs, rfl, rfl, h0, r0⟩ := trodAll_cons hA
  obtain ⟨rfl, rfl, rfl⟩ := trodAll_nil r0
  obtain rfl : args = #[v0] := by cases args; simp_all
  obtain ⟨rfl, rfl⟩ := trodVars_none hV
  have k0 := h0
  have lt0 : ∀ x ∈ p0, x.block < W.heap.size := by obtain ⟨m, hm⟩ := k0; exact DataW.trod_lt m _ _ _ hm
  obtain ⟨cs0, rfl, hz0⟩ := okWide_struct Tryz.underlying26 (hval 0 26 v0 rfl rfl)
  obtain ⟨x0, hk0, b0⟩ := opn_trod opnT26 h0
  obtain ⟨_, _, e0_, rfl, _, _, rfl, rfl, _, _, rfl, rfl, _, _, rfl, rfl, _, _, rfl, rfl, _, _, rfl, ⟨A0_5, c0_5, rfl, hc0_5, hr0_5⟩, _, _, rfl, rfl, _, _, rfl, rfl, _, _, rfl, rfl, rfl⟩ := hk0
  obtain rfl : cs0 = #[.string x0.f0, .string x0.f1, .string x0.f2, .int .i64 x0.f3, .bool x0.f4, .slice A0_5 x0.f5.length c0_5, .int .i64 x0.f6, .int .u64 x0.f7, .int .i64 x0.f8, .int .i64 x0.f9] := by cases cs0; simpa [Value.cells] using e0_
  clear hA0 hval0 hsz0 hsz
  obtain ⟨kk, hp⟩ := Pure.FlightBuilds x0 b0
  have hM_ : Aside0 (Pr.LaidW W) := ⟨Go.Proofs.cell_of_shapedOpen_int (zero := #[.int .i64 0]) (t := 3) hsh0 (of_decide_eq_true (by kernel_rfl)) (by kernel_rfl) rfl (by kernel_rfl) (by kernel_rfl) Tryz.underlying3, laid_tab hL⟩
  refine (lockkeeperlaw17_FlightBuilds.calls (k := kk) (a0_0 := x0.f0) (a0_1 := x0.f1) (a0_2 := x0.f2) (a0_3 := x0.f3) (a0_4 := x0.f4) (A0_5 := A0_5) (c0_5 := c0_5) (l0_5 := x0.f5) (a0_6 := x0.f6) (a0_7 := x0.f7) (a0_8 := x0.f8) (a0_9 := x0.f9) (r := true) (w := W) (hr0_5 := hr0_5) (hc0_5 := hc0_5) (hM_ := hM_) (hr_ := rfl) (h := hp)).mono fun e W' ⟨he, hbel⟩ => ?_
  have bel : Below W.heap.size W W' := hbel
  subst he
  exact ⟨_, rfl, _, _, _, [], _, [], hW', trodAll_mk1 (shut_bool Tryz.underlying4 _), (trodAll_cons_mk (Below.trod laidOut (by kernel_rfl) (of_decide_eq_true (by kernel_rfl)) k0 bel lt0) trodAll_mk0), rfl, bel.frame _, fun h => by cases h⟩
theorem said : Rows.FlightBuildsSaid :=
  OpenClaim.holds_of_cond 10 Tryz.f10 rfl rfl rfl rfl rfl rfl rfl ⟨rfl, rfl, rfl, rfl, rfl⟩ rfl rfl rfl rfl rfl (by kernel_rfl) Tryz.func10 (by kernel_rfl)
    (of_decide_eq_true (by kernel_rfl)) (by unfold Func.isWrapper; first | (rw [if_pos (by decide +kernel)]; kernel_rfl) | (rw [if_neg (by decide +kernel)]; exact ⟨rfl, rfl⟩))
    (fun os started H enc _ F => by rw [OpenClaim.pre_eq_preRow]; exact lifted os started H enc F)
theorem plain (f : FuncId) (fn : Func) (hf : Tryz.pinned.checked.prog.funcNamed Rows.flightBuildsRow.func = some f) (hfn : Tryz.pinned.checked.prog.funcs[f]? = some fn) :
    false = Tryz.pinned.checked.prog.looks [] ∧ ∀ (j : Nat) t, fn.params[j]? = some t → Tryz.pinned.checked.prog.wantsStandIn t = false := by
  obtain rfl : f = 10 := Option.some.inj ((show Tryz.prog.funcNamed Rows.flightBuildsRow.func = some 10 by kernel_rfl).symm.trans hf) |>.symm
  obtain rfl : fn = Tryz.f10 := (Option.some.inj (Tryz.func10.symm.trans hfn)).symm
  refine ⟨by kernel_rfl, fun j t ht => ?_⟩
  rw [Tryz.params10] at ht
  have hm := Array.mem_of_getElem? ht
  simp only [List.mem_toArray, List.mem_cons, List.not_mem_nil, or_false] at hm
  rcases hm with rfl
  · exact (show Tryz.prog.wantsStandIn 26 = false by kernel_rfl)
theorem card : Rows.FlightBuildsCardSaid :=
  Claim7.holds_tied_plain_at .later [] _ _ _ _ said (fun _ h => by cases h) (by kernel_rfl) (fun _ h => by cases h) flightBuilds_row_tie rfl ⟨rfl, rfl⟩ (by kernel_rfl) rfl plain (by kernel_rfl)
end Go.Proofs.YtfmajangcbgooaaGreatDoor.flightBuilds
namespace Go.Proofs.YtfmajangcbgooaaGreatDoor
/-- The card, under a short name, for the claim. -/
theorem flightBuilds_holds : Rows.FlightBuildsCardSaid := flightBuilds.card
end Go.Proofs.YtfmajangcbgooaaGreatDoor
