/- The row of FlightLets, out of its printed contract and its pure statement: for every input, with no condition. (Written by wip/xp/xrow.py.) -/
import Derived.Test.YtfmajangcbgooaaGreatDoorBFlightLets
import Derived.Test.YtfmajangcbgooaaGreatDoorR1
import Derived.Test.YtfmajangcbgooaaGreatDoorPr18
import Derived.Test.YtfmajangcbgooaaGreatDoorPr2
import Derived.Test.YtfmajangcbgooaaGreatDoorRows
import Derived.WalkKit
import Derived.ProofKit
import Derived.OpenShut
import Derived.ShutString
import Derived.ChangeOld
import Derived.Below
import Derived.SizedLaws
import Derived.Carry
import Derived.LaidSub
import Derived.Shelf.Vars
import Derived.Test.YtfmajangcbgooaaGreatDoorCards
import Derived.Test.YtfmajangcbgooaaGreatDoorTie
import Derived.Deep.DeepHandedRow
import Derived.Deep.DeepWitnessRowRef
import Derived.Lib.LaidTab

/- The printed law FlightLets tells true for every request, status and number (of the form's own reach). -/
namespace Go.Proofs.YtfmajangcbgooaaGreatDoor.Pure
open Go.RowKit Go.Proofs.YtfmajangcbgooaaGreatDoor.Pr Go.Proofs.YtfmajangcbgooaaGreatDoorW.PrintWords Go.Proofs.YtfmajangcbgooaaGreatDoorW.PrintLast
set_option linter.unusedVariables false
set_option linter.unusedSimpArgs false

theorem lowv_f (x n : Int) (hn : 1 ≤ n) (hn2 : n ≤ 1000000) : ∃ v, lockkeeperlaw0_Low.f x n = some v ∧ 0 ≤ v ∧ v < n := by
  unfold lockkeeperlaw0_Low.f
  have e : IntKind.u64.wrap n = n := by rw [IntKind.wrap_u64]; omega
  rw [e, if_neg (by omega)]
  have h1 : 0 ≤ IntKind.u64.wrap x := by rw [IntKind.wrap_u64]; omega
  generalize IntKind.u64.wrap x = y at h1
  rw [Int.tmod_eq_emod_of_nonneg h1]
  have h3 := Int.emod_nonneg y (show n ≠ 0 by omega)
  have h4 := Int.emod_lt_of_pos y (show 0 < n by omega)
  have h2 : wrap64 (y % n) = y % n := by unfold wrap64; omega
  exact ⟨_, rfl, by omega, by omega⟩
theorem joinS_one (x : ByteArray) : joinS [x] = x := by
  unfold joinS joinB
  simp only [List.map_cons, List.map_nil, Lib.join, List.intercalate_singleton]
  exact bsOf_of x
theorem meth_tok {m : ByteArray} (h : methS m = 0) : tokS m = true ∧ m.size ≤ 32 := by
  unfold methS at h
  split at h
  · rename_i h1
    split at h
    · exact absurd h (by decide)
    · exact ⟨h1, by omega⟩
  · exact absurd h (by decide)
theorem commaS_size (L : List ByteArray) (n : Nat) (h : ∀ x ∈ L, x.size ≤ n) : (commaS L).size ≤ L.length * (n + 1) := by
  have h1 := join_le ([44] : List UInt8) n (L.map fun x => x.data.toList) (by
    intro x hm
    obtain ⟨y, hy, rfl⟩ := List.mem_map.1 hm
    have := h y hy
    rw [size_len] at this
    exact this)
  rw [List.length_map] at h1
  rw [size_len, commaS_data]
  exact h1
theorem names_small {l : List Hd} (h : checkS l = 0) : (snames l).length ≤ 32 ∧ ∀ x ∈ snames l, x.size ≤ 64 := by
  have hl := snames_length l
  unfold checkS at h
  split at h
  · exact absurd h (by decide)
  · rename_i h0
    refine ⟨by omega, fun x hx => ?_⟩
    have h1 := snames_sub l x hx
    rw [namesS_mem] at h1
    obtain ⟨a, hm, e⟩ := h1
    split at h
    · rename_i hall
      have := List.all_eq_true.1 hall a hm
      unfold goodH isHS at this
      split at this
      · split at this
        · rw [← e, lowB_size]; omega
        · cases this
      · cases this
    · exact absurd h (by decide)
theorem trimL_vis {l : Bs} (h : ∀ x ∈ l, visC x) : trimL l = l := by
  unfold trimL trimR
  rw [drop_vis h, drop_vis (by intro x hx; exact h x (by simpa using hx)), List.reverse_reverse]
theorem keep_toks (L : List ByteArray) (h : ∀ x ∈ L, tokS x = true) : keepT (L.map fun x => x.data.toList) = L := by
  induction L with
  | nil => rfl
  | cons x r ih =>
    have h1 := h x (by simp)
    have e1 := trimL_vis (tok_vis h1)
    have e2 := (toks_text h1).2
    have ih' := ih fun y hy => h y (by simp [hy])
    unfold keepT at ih' ⊢
    rw [List.map_cons, List.map_cons, e1, List.filter_cons, if_pos (by simpa using e2), List.map_cons, ih', bsOf_of]
theorem split_comma (L : List ByteArray) (h : ∀ x ∈ L, tokS x = true) : splitS (commaS L) = L := by
  unfold splitS
  rw [commaS_data]
  by_cases hL : L = []
  · subst hL
    rfl
  · rw [join_comma _ (by simpa using hL) (fun y hy => by
      obtain ⟨x, hx, rfl⟩ := List.mem_map.1 hy
      exact (toks_text (h x hx)).1)]
    exact keep_toks L h
theorem split_one {x : ByteArray} (h : tokS x = true) : splitS x = [x] := by
  unfold splitS
  rw [splitC_not 44 _ (toks_text h).1]
  exact keep_toks [x] (by simpa using h)
def pc (a : Bool) (n v : ByteArray) : List Hd := if a = true then [⟨n, v⟩] else []
theorem vals_app (a b : List Hd) (n : ByteArray) : vals (a ++ b) n = vals a n ++ vals b n := by
  unfold vals
  rw [List.filter_append, List.map_append]
theorem pc_at (a : Bool) {n v name : ByteArray} (h : foldB n name = true) : vals (pc a n v) name = if a = true then [trimS v] else [] := by
  unfold pc vals
  cases a with
  | true => rw [if_pos rfl, if_pos rfl, List.filter_cons, if_pos h]; rfl
  | false => rfl
theorem pc_off (a : Bool) {n v name : ByteArray} (h : foldB n name = false) : vals (pc a n v) name = [] := by
  unfold pc vals
  cases a with
  | true => rw [if_pos rfl, List.filter_cons, if_neg (by show ¬ foldB n name = true; rw [h]; decide)]; rfl
  | false => rfl
def sTrue : ByteArray := (⟨#[116, 114, 117, 101]⟩ : ByteArray)
def rowL (O M : ByteArray) (names : List ByteArray) (a b c d : Bool) : List Hd := pc a sFrom O ++ (pc b sTrusts sTrue ++ (pc c sMeths M ++ pc d sHeads (commaS names)))
theorem get_of {l : List Hd} {n v : ByteArray} {a : Bool} (h : vals l n = if a = true then [v] else []) : getS l n = (if a = true then v else ⟨#[]⟩, a) := by
  unfold getS
  rw [h]
  cases a with
  | true => rw [if_pos rfl, if_pos rfl, joinS_one]; rfl
  | false => rfl
section
variable {O M : ByteArray} {names : List ByteArray} (a b c d : Bool)
theorem row_from (hO : ∀ x ∈ O.data.toList, visC x) : getS (rowL O M names a b c d) sFrom = (if a = true then O else ⟨#[]⟩, a) := by
  refine get_of ?_
  unfold rowL
  rw [vals_app, vals_app, vals_app, pc_at a (by decide +kernel), pc_off b (by decide +kernel), pc_off c (by decide +kernel), pc_off d (by decide +kernel), trim_vis hO]
  simp
theorem row_trusts : getS (rowL O M names a b c d) sTrusts = (if b = true then sTrue else ⟨#[]⟩, b) := by
  refine get_of ?_
  unfold rowL
  rw [vals_app, vals_app, vals_app, pc_off a (by decide +kernel), pc_at b (by decide +kernel), pc_off c (by decide +kernel), pc_off d (by decide +kernel), show trimS sTrue = sTrue by decide +kernel]
  simp
theorem row_meths (hM : tokS M = true) : getS (rowL O M names a b c d) sMeths = (if c = true then M else ⟨#[]⟩, c) := by
  refine get_of ?_
  unfold rowL
  rw [vals_app, vals_app, vals_app, pc_off a (by decide +kernel), pc_off b (by decide +kernel), pc_at c (by decide +kernel), pc_off d (by decide +kernel), trim_vis (tok_vis hM)]
  simp
theorem row_heads (hN : ∀ x ∈ names, tokS x = true) : getS (rowL O M names a b c d) sHeads = (if d = true then commaS names else ⟨#[]⟩, d) := by
  refine get_of ?_
  unfold rowL
  rw [vals_app, vals_app, vals_app, pc_off a (by decide +kernel), pc_off b (by decide +kernel), pc_off c (by decide +kernel), pc_at d (by decide +kernel), trim_vis (comma_vis hN)]
  simp
theorem row_age : getS (rowL O M names a b c d) sAge = (⟨#[]⟩, false) := by
  refine get_of (a := false) (v := ⟨#[]⟩) ?_
  unfold rowL
  rw [vals_app, vals_app, vals_app, pc_off a (by decide +kernel), pc_off b (by decide +kernel), pc_off c (by decide +kernel), pc_off d (by decide +kernel)]
  rfl
theorem row_toksM (hM : tokS M = true) : toksS (rowL O M names a b c d) sMeths = (if c = true then [M] else [], true) := by
  unfold toksS
  rw [row_meths a b c d hM]
  cases c with
  | true => rw [if_pos rfl, if_pos rfl, split_one hM, if_pos (by simp [hM])]
  | false => rfl
theorem row_toksH (hN : ∀ x ∈ names, tokS x = true) : toksS (rowL O M names a b c d) sHeads = (if d = true then names else [], true) := by
  unfold toksS
  rw [row_heads a b c d hN]
  cases d with
  | true => rw [if_pos rfl, if_pos rfl, split_comma names hN, if_pos (by rw [List.all_eq_true]; exact hN)]
  | false => rfl
theorem row_read (hM : tokS M = true) (hN : ∀ x ∈ names, tokS x = true) (hl : ∀ x ∈ names, lowB x = x) : readS (rowL O M names a b c d) = (if c = true then [M] else [], if d = true then names else [], 5, 0) := by
  unfold readS
  rw [row_toksM a b c d hM, row_toksH a b c d hN, row_age a b c d, if_pos rfl, if_pos rfl]
  have e : (if d = true then names else []).map lowB = if d = true then names else [] := by
    cases d with
    | true => rw [if_pos rfl]; exact (List.map_congr_left hl).trans (List.map_id _)
    | false => rfl
  rw [e]
  have e2 : ageS (⟨#[]⟩ : ByteArray) = 5 := by decide +kernel
  rw [e2]
theorem row_cors (creds : Bool) (hO : ∀ x ∈ O.data.toList, visC x) : corsS O creds (rowL O M names a b c d) = if a = true then (if creds = true ∧ b = false then 15 else 0) else 15 := by
  unfold corsS
  rw [row_from a b c d hO, row_trusts a b c d]
  cases a with
  | false => rfl
  | true =>
    cases creds with
    | false => by_cases hs : O.data.toList = ([42] : List UInt8) <;> simp [hs]
    | true => cases b <;> simp <;> decide
theorem row_small (hOs : O.size ≤ 1000) (hMs : M.size ≤ 1000) (hc : (commaS names).size ≤ 5000) : HT (rowL O M names a b c d) := by
  have z : sFrom.size ≤ 100 ∧ sTrusts.size ≤ 100 ∧ sTrue.size ≤ 100 ∧ sMeths.size ≤ 100 ∧ sHeads.size ≤ 100 := by decide
  have one : ∀ (a : Bool) (n v : ByteArray), n.size ≤ 100 → v.size ≤ 5000 → (pc a n v).length ≤ 1 ∧ ∀ h ∈ pc a n v, h.f0.size ≤ 100 ∧ h.f1.size ≤ 5000 := by
    intro a n v h1 h2
    cases a with
    | true => exact ⟨by simp [pc], by intro h hh; simp only [pc, if_pos, List.mem_singleton] at hh; subst hh; exact ⟨h1, h2⟩⟩
    | false => exact ⟨by simp [pc], by intro h hh; simp [pc] at hh⟩
  have p1 := one a sFrom O (by omega) (by omega)
  have p2 := one b sTrusts sTrue (by omega) (by omega)
  have p3 := one c sMeths M (by omega) (by omega)
  have p4 := one d sHeads (commaS names) (by omega) (by omega)
  unfold rowL
  refine ⟨by simp only [List.length_append]; omega, fun x hx => ?_⟩
  simp only [List.mem_append] at hx
  rcases hx with hx | hx | hx | hx
  · have := p1.2 x hx; omega
  · have := p2.2 x hx; omega
  · have := p3.2 x hx; omega
  · have := p4.2 x hx; omega
end
theorem snames_low (l : List Hd) : ∀ x ∈ snames l, lowB x = x := by
  intro x hx
  have h1 := snames_sub l x hx
  rw [namesS_mem] at h1
  obtain ⟨h, _, rfl⟩ := h1
  exact lowB_idem _
theorem cov_mem {H : List ByteArray} {n : ByteArray} {creds : Bool} (hl : lowB n = n) (h : n ∈ H) : covS H n creds = true := by
  unfold covS
  rw [hl, if_pos ((Lib.containsS_iff _ _).2 h)]
theorem cov_none (n : ByteArray) (creds : Bool) : covS [] n creds = false := by
  have e : ∀ x, Lib.containsS [] x = false := by
    intro x
    cases h : Lib.containsS [] x with
    | false => rfl
    | true => exact absurd ((Lib.containsS_iff _ _).1 h) (by simp)
  unfold covS
  rw [e, e, if_neg (by decide)]
  cases creds
  · split <;> simp_all
  · rfl
theorem has_none (m : ByteArray) (creds : Bool) : hasS [] m creds = safeM m := by
  have e : ∀ x, Lib.containsS [] x = false := by
    intro x
    cases h : Lib.containsS [] x with
    | false => rfl
    | true => exact absurd ((Lib.containsS_iff _ _).1 h) (by simp)
  unfold hasS
  rw [e, e]
  cases safeM m <;> cases creds <;> rfl
theorem has_one (m : ByteArray) (creds : Bool) : hasS [m] m creds = true := by
  unfold hasS
  split
  · rfl
  · rw [if_pos ((Lib.containsS_iff _ _).2 (by simp))]
section
variable {m u o : ByteArray} {mode : Int} {creds : Bool} {l : List Hd} {cls tmo grp sig : Int}
structure LG (m u o : ByteArray) (mode : Int) (l : List Hd) (cls tmo grp sig : Int) : Prop where
  rs : RS m u o l
  needs : needsS m u o mode l cls tmo grp sig = true
  ask : askS m u o mode l cls tmo grp sig = 0
  meth : tokS (mnormS m) = true ∧ (mnormS m).size ≤ 32
  org : ∀ x ∈ (toldO o).data.toList, visC x
  orgs : (toldO o).size ≤ 1000
  toks : ∀ x ∈ snames l, tokS x = true
  size : (snames l).length ≤ 32 ∧ ∀ x ∈ snames l, x.size ≤ 64
def jR (m o : ByteArray) (creds : Bool) (l : List Hd) (st : Int) (a b c d : Bool) : RT :=
  if a = true ∧ ¬ (creds = true ∧ b = false) then (if st ≥ 300 then noA 14 else lastJ (mnormS m) creds (snames l) (if c = true then [mnormS m] else [], if d = true then snames l else [], 5, 0)) else noA 15
theorem judge_row (g : LG m u o mode l cls tmo grp sig) (st : Int) (h2 : 200 ≤ st) (a b c d : Bool) :
    Ev (fun k => flight_Judge.f k m u o mode creds l cls tmo grp sig st (rowL (toldO o) (mnormS m) (snames l) a b c d)) (jR m o creds l st a b c d) := by
  have hc := commaS_size (snames l) 64 g.size.2
  have hc2 : (snames l).length * (64 + 1) ≤ 32 * 65 := Nat.mul_le_mul g.size.1 (Nat.le_refl _)
  have hM := g.meth.2
  have hT : HT (rowL (toldO o) (mnormS m) (snames l) a b c d) := row_small a b c d g.orgs (by omega) (by omega)
  refine evEq (judge_ev m u o mode creds l cls tmo grp sig st _ g.rs hT) ?_
  unfold judgeS jR
  rw [if_pos g.needs, row_cors a b c d creds g.org]
  have hs : ¬ st < 200 := by omega
  unfold statS
  rw [row_read a b c d g.meth.1 g.toks (snames_low l)]
  cases a <;> cases b <;> cases creds <;> simp [hs]
theorem all_cov (creds : Bool) : ((snames l).all fun n => covS (snames l) n creds) = true := by
  rw [List.all_eq_true]
  exact fun x hx => cov_mem (snames_low l x hx) hx
theorem jR_full (st : Int) (h3 : st < 300) : jR m o creds l st true true true true = ([mnormS m], snames l, 5, 0) := by
  unfold jR lastJ
  rw [if_pos ⟨rfl, by simp⟩, if_neg (by omega)]
  simp only [eq_self, ↓reduceIte, has_one, all_cov]
theorem jR_late (st : Int) (h3 : 300 ≤ st) : jR m o creds l st true true true true = noA 14 := by
  unfold jR
  rw [if_pos ⟨rfl, by simp⟩, if_pos (by omega)]
theorem jR_from (st : Int) (b c d : Bool) : jR m o creds l st false b c d = noA 15 := by
  unfold jR
  rw [if_neg (by simp)]
theorem jR_trusts (st : Int) (h3 : st < 300) : jR m o creds l st true false true true = if creds = true then noA 15 else ([mnormS m], snames l, 5, 0) := by
  unfold jR lastJ
  cases creds with
  | true => rw [if_neg (by simp), if_pos rfl]
  | false =>
    rw [if_pos ⟨rfl, by simp⟩, if_neg (by omega)]
    simp only [eq_self, ↓reduceIte, has_one, all_cov, Bool.false_eq_true]
theorem jR_meth (st : Int) (h3 : st < 300) : (jR m o creds l st true true false true).2.2.2 = if safeM (mnormS m) = true then 0 else 5 := by
  unfold jR lastJ
  rw [if_pos ⟨rfl, by simp⟩, if_neg (by omega)]
  simp only [eq_self, ↓reduceIte, has_none, all_cov, Bool.false_eq_true]
  by_cases hm : safeM (mnormS m) = true
  · rw [if_pos hm, if_pos hm]
  · rw [if_neg hm, if_neg hm]
    rfl
theorem jR_heads (st : Int) (h3 : st < 300) : (jR m o creds l st true true true false).2.2.2 = if (snames l).length > 0 then 6 else 0 := by
  unfold jR lastJ
  rw [if_pos ⟨rfl, by simp⟩, if_neg (by omega)]
  simp only [eq_self, ↓reduceIte, has_one, Bool.false_eq_true]
  cases e : snames l with
  | nil => rfl
  | cons x r =>
    rw [if_neg (by rw [List.all_cons]; simp [cov_none]), if_pos (by simp)]
    rfl
end
theorem lets_true (m u o : ByteArray) (mode : Int) (creds : Bool) (l : List Hd) (cls tmo grp sig x1 x2 : Int) : Ev (fun k => lockkeeperlaw17_FlightLets.j0 k x1 x2 true m u o mode creds l cls tmo grp sig) true := by
  refine evSucc ?_
  simp only [lockkeeperlaw17_FlightLets.j0]
  exact evPos trivial (Ev.bind awake17_ev (Ev.now _))
section
variable {m u o : ByteArray} {mode : Int} {creds : Bool} {l : List Hd} {cls tmo grp sig : Int}
theorem lets_last (g : LG m u o mode l cls tmo grp sig) (s : Int) (h1 : 200 ≤ s) (h2 : s < 300) : Ev (fun k => flight_Judge.f k m u o mode creds l cls tmo grp sig (wrap64 (s + 100)) (rowL (toldO o) (mnormS m) (snames l) true true true true)) (noA 14) := by
  have e : wrap64 (s + 100) = s + 100 := by unfold wrap64; omega
  rw [e]
  exact evEq (judge_row g (s + 100) (by omega) true true true true) (jR_late _ (by omega))
theorem lets_j4 (g : LG m u o mode l cls tmo grp sig) (s : Int) (h1 : 200 ≤ s) (h2 : s < 300) (f : Int) (b : Bool) (hf : f = if b = true then 6 else 0) :
    Ev (fun k => lockkeeperlaw17_FlightLets.j4 k s (rowL (toldO o) (mnormS m) (snames l) true true true true) f 0 b m u o mode creds l cls tmo grp sig) true := by
  refine evSucc ?_
  simp only [lockkeeperlaw17_FlightLets.j4]
  cases b with
  | true => exact evPos rfl (Ev.bind (lets_last g s h1 h2) (evPos hf (evPos rfl (Ev.bind awake17_ev (Ev.now _)))))
  | false => exact evNeg (by simp) (Ev.bind (lets_last g s h1 h2) (evPos hf (evPos rfl (Ev.bind awake17_ev (Ev.now _)))))
theorem lets_j3 (g : LG m u o mode l cls tmo grp sig) (s : Int) (h1 : 200 ≤ s) (h2 : s < 300) (t f : Int) (b : Bool) (hb : b = true → f = 5) (h3 : b = false → t = 3 → f = if (snames l).length > 0 then 6 else 0) (h4 : b = false → t ≠ 3 → f = 0) :
    Ev (fun k => lockkeeperlaw17_FlightLets.j3 k s (rowL (toldO o) (mnormS m) (snames l) true true true true) t f 0 b m u o mode creds l cls tmo grp sig) true := by
  refine evSucc ?_
  simp only [lockkeeperlaw17_FlightLets.j3]
  cases b with
  | true => exact evPos rfl (Ev.bind (lets_last g s h1 h2) (evPos (hb rfl) (evPos rfl (Ev.bind awake17_ev (Ev.now _)))))
  | false =>
    refine evNeg (by simp) ?_
    by_cases ht : t = 3
    · refine evPos ht (Ev.bind (evEq (anames_ev m u o mode creds l cls tmo grp sig g.rs) (if_pos g.ask)) ?_)
      exact lets_j4 g s h1 h2 f _ (by rw [h3 rfl ht]; simp)
    · exact evNeg ht (lets_j4 g s h1 h2 f false (by simpa using h4 rfl ht))
theorem lets_j2 (g : LG m u o mode l cls tmo grp sig) (s : Int) (h1 : 200 ≤ s) (h2 : s < 300) (t f : Int) (b : Bool) (u' o' : ByteArray) (mode' : Int) (creds' : Bool) (l' : List Hd) (cls' tmo' grp' sig' : Int) (hb : b = true → f = 15)
    (h3 : b = false → t = 2 → f = if safeM (mnormS m) = true then 0 else 5) (h4 : b = false → t = 3 → f = if (snames l).length > 0 then 6 else 0) (h5 : b = false → t ≠ 2 → t ≠ 3 → f = 0) :
    Ev (fun k => lockkeeperlaw17_FlightLets.j2 k s (rowL (toldO o) (mnormS m) (snames l) true true true true) t f 0 b m u o mode creds l cls tmo grp sig (mnormS m) u' o' mode' creds' l' cls' tmo' grp' sig') true := by
  refine evSucc ?_
  simp only [lockkeeperlaw17_FlightLets.j2]
  cases b with
  | true => exact evPos rfl (Ev.bind (lets_last g s h1 h2) (evPos (hb rfl) (evPos rfl (Ev.bind awake17_ev (Ev.now _)))))
  | false =>
    refine evNeg (by simp) ?_
    have hM := g.meth.2
    by_cases ht : t = 2
    · refine evPos ht (Ev.bind (safeM_ev _ (by omega)) ?_)
      have e := h3 rfl ht
      refine lets_j3 g s h1 h2 t f _ (fun hx => ?_) (fun _ h => absurd h (by omega)) (fun hx _ => ?_)
      · rw [e, if_neg (by simpa using hx)]
      · rw [e, if_pos (by simpa using hx)]
    · exact evNeg ht (lets_j3 g s h1 h2 t f false (by simp) (fun _ h => h4 rfl h) (fun _ h => h5 rfl ht h))
theorem lets_j1 (g : LG m u o mode l cls tmo grp sig) (s : Int) (h1 : 200 ≤ s) (h2 : s < 300) (x2 : Int) (u' o' : ByteArray) (mode' : Int) (creds' : Bool) (l' : List Hd) (cls' tmo' grp' sig' : Int) :
    Ev (fun k => lockkeeperlaw17_FlightLets.j1 k x2 s (rowL (toldO o) (mnormS m) (snames l) true true true true) false m u o mode creds l cls tmo grp sig (mnormS m) u' o' mode' creds' l' cls' tmo' grp' sig') true := by
  obtain ⟨t, e, t0, t1⟩ := lowv_f x2 4 (by omega) (by omega)
  refine evSucc ?_
  simp only [lockkeeperlaw17_FlightLets.j1]
  refine evNeg (by simp) (evBind e ?_)
  have ht : t = 0 ∨ t = 1 ∨ t = 2 ∨ t = 3 := by omega
  have hn : (rowL (toldO o) (mnormS m) (snames l) true true true true).length = 4 := rfl
  have w0 : wrap64 ((0 : Int) + 1) = 1 := by unfold wrap64; omega
  have w1 : wrap64 ((1 : Int) + 1) = 2 := by unfold wrap64; omega
  have w2 : wrap64 ((2 : Int) + 1) = 3 := by unfold wrap64; omega
  have w3 : wrap64 ((3 : Int) + 1) = 4 := by unfold wrap64; omega
  rcases ht with rfl | rfl | rfl | rfl
  · refine evPos (by omega) (evPos (by omega) ?_)
    simp only [Option.bind_some, w0]
    refine evPos (by simp [hn]) (evPos (by decide) (evPos (by omega) (evPos (by simp [hn]) ?_)))
    refine Ev.bind (evEq (judge_row (creds := creds) g s h1 false true true true) (jR_from s _ _ _)) ?_
    exact evPos trivial (lets_j2 g s h1 h2 0 15 true u' o' mode' creds' l' cls' tmo' grp' sig' (fun _ => rfl) (by simp) (by simp) (by simp))
  · refine evPos (by omega) (evPos (by omega) ?_)
    simp only [Option.bind_some, w1]
    refine evPos (by simp [hn]) (evPos (by decide) (evPos (by omega) (evPos (by simp [hn]) ?_)))
    refine Ev.bind (evEq (judge_row (creds := creds) g s h1 true false true true) (jR_trusts s h2)) ?_
    refine evNeg (by decide) (evPos trivial (lets_j2 g s h1 h2 1 _ creds u' o' mode' creds' l' cls' tmo' grp' sig' (fun hx => ?_) (by omega) (by omega) (fun hx _ _ => ?_)))
    · rw [if_pos hx]; rfl
    · rw [if_neg (by simp [hx])]
  · refine evPos (by omega) (evPos (by omega) ?_)
    simp only [Option.bind_some, w2]
    refine evPos (by simp [hn]) (evPos (by decide) (evPos (by omega) (evPos (by simp [hn]) ?_)))
    refine Ev.bind (judge_row (creds := creds) g s h1 true true false true) ?_
    exact evNeg (by decide) (evNeg (by decide) (lets_j2 g s h1 h2 2 _ false u' o' mode' creds' l' cls' tmo' grp' sig' (by simp) (fun _ _ => jR_meth s h2) (fun _ h => absurd h (by decide)) (fun _ h => absurd rfl h)))
  · refine evPos (by omega) (evPos (by omega) ?_)
    simp only [Option.bind_some, w3]
    refine evPos (by simp [hn]) (evPos (by decide) (evPos (by omega) (evPos (by simp [hn]) ?_)))
    refine Ev.bind (judge_row (creds := creds) g s h1 true true true false) ?_
    exact evNeg (by decide) (evNeg (by decide) (lets_j2 g s h1 h2 3 _ false u' o' mode' creds' l' cls' tmo' grp' sig' (by simp) (fun _ h => absurd h (by decide)) (fun _ _ => jR_heads s h2) (fun _ _ h => absurd rfl h)))
end
theorem FlightLets : ∀ (x0 : S26) (a1 : Int) (a2 : Int), (bT26 x0) → (Lit.int .i64 a1).wf = true → (Lit.int .i64 a2).wf = true → ∃ k, lockkeeperlaw17_FlightLets.f k x0.f0 x0.f1 x0.f2 x0.f3 x0.f4 x0.f5 x0.f6 x0.f7 x0.f8 x0.f9 a1 a2 = some true := by
  rintro ⟨m, u, o, mode, creds, l, cls, tmo, grp, sig⟩ x1 x2 _ _ _
  dsimp only
  refine Ev.rounds (g := fun k => lockkeeperlaw17_FlightLets.f k m u o mode creds l cls tmo grp sig x1 x2) ?_
  unfold lockkeeperlaw17_FlightLets.f
  obtain ⟨b, hb, hB⟩ := greatR_ev m u o mode creds l cls tmo grp sig
  refine Ev.bind hb ?_
  cases b with
  | true => exact evPos rfl (lets_true _ _ _ _ _ _ _ _ _ _ _ _)
  | false =>
    obtain ⟨h1, h2, h3, h4⟩ := hB rfl
    have hR : RS m u o l := ⟨by omega, by omega, by omega, small_ok h4⟩
    refine evNeg (by decide) (Ev.bind (needs_ev m u o mode creds l cls tmo grp sig hR) ?_)
    by_cases hn : needsS m u o mode l cls tmo grp sig = true
    · have e := needs_ask hn
      obtain ⟨p1, p2, p3, p4⟩ := ask_parts0 e
      obtain ⟨q1, q2⟩ := field_parts0 p3
      have hchk : chkS (parseS o).1 (parseS o).2.1 (parseS o).2.2.1 = true := by rw [← parse_code o, p2]; rfl
      have g : LG m u o mode l cls tmo grp sig := ⟨hR, hn, e, meth_tok (meth_norm m q1), show_vis hchk, showS_size _ _ _, snames_tok q2, names_small q2⟩
      have hz := g.size.1
      obtain ⟨v, ev, v0, v1⟩ := lowv_f x1 100 (by omega) (by omega)
      have es : wrap64 (200 + v) = 200 + v := by unfold wrap64; omega
      have hnm : namesR m u o mode l cls tmo grp sig = snames l := if_pos e
      have hcell' : cellR m u o mode creds l cls tmo grp sig = (toldO o, toldU u, creds) := by
        unfold cellR
        rw [normR_ok e]
      have hw : wantR m u o mode creds l cls tmo grp sig = (toldO o, toldU u, creds, mnormS m, commaS (snames l)) := by
        unfold wantR
        rw [hcell', normR_ok e, hnm]
      rw [hn]
      refine evSucc ?_
      simp only [lockkeeperlaw17_FlightLets.j0]
      refine evNeg (by simp) (Ev.bind (evEq (anorm_ev m u o mode creds l cls tmo grp sig hR) (normR_ok e)) (evBind ev (Ev.bind (evEq (want_ev m u o mode creds l cls tmo grp sig hR) hw) ?_)))
      simp only [Option.bind_some, es]
      refine Ev.bind (evEq (judge_row g (200 + v) (by omega) true true true true) (jR_full _ (by omega))) (evPos rfl (evPos rfl (evPos rfl ?_)))
      refine Ev.bind (evEq (anames_ev m u o mode creds l cls tmo grp sig hR) hnm) (Ev.bind (texts_refl _ (by show (snames l).length ≤ _; omega)) ?_)
      exact lets_j1 g (200 + v) (by omega) (by omega) x2 _ _ _ _ _ _ _ _ _
    · have e : needsS m u o mode l cls tmo grp sig = false := by simpa using hn
      rw [e]
      exact lets_true _ _ _ _ _ _ _ _ _ _ _ _
end Go.Proofs.YtfmajangcbgooaaGreatDoor.Pure
namespace Go.Proofs.YtfmajangcbgooaaGreatDoor.flightLets
open Go.ChangeShapes Go.WideShapes Go.ChangeAt Go.RowKit Go.Proofs.YtfmajangcbgooaaGreatDoorW.PrintWords Go.Proofs.YtfmajangcbgooaaGreatDoor.Pr
open Go.ChangeMaps (open_string shut_string)
set_option linter.unusedVariables false
theorem own : ownKnob Tryz.prog.godebug = none := by kernel_rfl
theorem laidOut : laidOutB Tryz.prog = true := by kernel_rfl
/-- A world for the witness: the settled one, the listed variables holding what they are laid with. -/
noncomputable def laidWorld (os : Os) : World :=
  let w0 := World.holding Tryz.prog os ⟨#[], #[], []⟩
  let put (h : Array Obj) (g : Nat) (cs : Array Value) : Array Obj := h.modify g fun
    | .cells _ t frozen => .cells cs t frozen
    | o => o
  let h1 := put w0.heap 4 #[Value.int .u8 0, Value.int .u8 1, Value.int .u8 28, Value.int .u8 2, Value.int .u8 29, Value.int .u8 14, Value.int .u8 24, Value.int .u8 3, Value.int .u8 30, Value.int .u8 22, Value.int .u8 20, Value.int .u8 15, Value.int .u8 25, Value.int .u8 17, Value.int .u8 4, Value.int .u8 8, Value.int .u8 31, Value.int .u8 27, Value.int .u8 13, Value.int .u8 23, Value.int .u8 21, Value.int .u8 19, Value.int .u8 16, Value.int .u8 7, Value.int .u8 26, Value.int .u8 12, Value.int .u8 18, Value.int .u8 6, Value.int .u8 11, Value.int .u8 5, Value.int .u8 10, Value.int .u8 9]
  let h2 := put h1 5 #[Value.int .u8 0, Value.int .u8 1, Value.int .u8 56, Value.int .u8 2, Value.int .u8 57, Value.int .u8 49, Value.int .u8 28, Value.int .u8 3, Value.int .u8 61, Value.int .u8 58, Value.int .u8 42, Value.int .u8 50, Value.int .u8 38, Value.int .u8 29, Value.int .u8 17, Value.int .u8 4, Value.int .u8 62, Value.int .u8 47, Value.int .u8 59, Value.int .u8 36, Value.int .u8 45, Value.int .u8 43, Value.int .u8 51, Value.int .u8 22, Value.int .u8 53, Value.int .u8 39, Value.int .u8 33, Value.int .u8 30, Value.int .u8 24, Value.int .u8 18, Value.int .u8 12, Value.int .u8 5, Value.int .u8 63, Value.int .u8 55, Value.int .u8 48, Value.int .u8 27, Value.int .u8 60, Value.int .u8 41, Value.int .u8 37, Value.int .u8 16, Value.int .u8 46, Value.int .u8 35, Value.int .u8 44, Value.int .u8 21, Value.int .u8 52, Value.int .u8 32, Value.int .u8 23, Value.int .u8 11, Value.int .u8 54, Value.int .u8 26, Value.int .u8 40, Value.int .u8 15, Value.int .u8 34, Value.int .u8 20, Value.int .u8 31, Value.int .u8 10, Value.int .u8 25, Value.int .u8 14, Value.int .u8 19, Value.int .u8 9, Value.int .u8 13, Value.int .u8 8, Value.int .u8 7, Value.int .u8 6]
  let h3 := put h2 1 #[Value.int .u64 1, Value.int .u64 10, Value.int .u64 100, Value.int .u64 1000, Value.int .u64 10000, Value.int .u64 100000, Value.int .u64 1000000, Value.int .u64 10000000, Value.int .u64 100000000, Value.int .u64 1000000000, Value.int .u64 10000000000, Value.int .u64 100000000000, Value.int .u64 1000000000000, Value.int .u64 10000000000000, Value.int .u64 100000000000000, Value.int .u64 1000000000000000, Value.int .u64 10000000000000000, Value.int .u64 100000000000000000, Value.int .u64 1000000000000000000, Value.int .u64 10000000000000000000]
  let h4 := put h3 3 #[Value.int .u8 128, Value.int .u8 191, Value.int .u8 160, Value.int .u8 191, Value.int .u8 128, Value.int .u8 159, Value.int .u8 144, Value.int .u8 191, Value.int .u8 128, Value.int .u8 143, Value.int .u8 0, Value.int .u8 0, Value.int .u8 0, Value.int .u8 0, Value.int .u8 0, Value.int .u8 0, Value.int .u8 0, Value.int .u8 0, Value.int .u8 0, Value.int .u8 0, Value.int .u8 0, Value.int .u8 0, Value.int .u8 0, Value.int .u8 0, Value.int .u8 0, Value.int .u8 0, Value.int .u8 0, Value.int .u8 0, Value.int .u8 0, Value.int .u8 0, Value.int .u8 0, Value.int .u8 0]
  let h5 := put h4 2 (Go.Pinned.utf8FirstZ.map fun (z : Nat) => Value.int .u8 (z : Int)).toArray
  { w0 with heap := h5 }
theorem laid_tab {W : World} (h : laidMetH Tryz.prog Rows.flightLetsRow.laid W) : Lib.TabIs Tryz.prog W "internal/strconv.uint64pow10" .u64 Lib.pow10Tab := by
  have h1 := (laidMetH_iff.1 h).1.filter (fun x => x.1 == "internal/strconv.uint64pow10")
  have e : ((Rows.flightLetsRow.laid.filter fun x => x.2.handleName?.isNone).filter fun x => x.1 == "internal/strconv.uint64pow10") = [("internal/strconv.uint64pow10", Lib.tabData .u64 Lib.pow10Tab)] := by kernel_rfl
  rw [e] at h1
  exact Lib.tabIs_of_head (g := 1) (by kernel_rfl) (by kernel_rfl) Tryz.underlying200 Tryz.underlying24 (by kernel_rfl) (by kernel_rfl) h1
theorem laid_met (os : Os) : laidMet Tryz.prog Rows.flightLetsRow.laid ((laidWorld os).forCall (fun _ _ => 0) ⟨#[], #[.agg #[.string ByteArray.empty, .string ByteArray.empty, .string ByteArray.empty, .int .i64 0, .bool false, .slice none 0 0, .int .i64 0, .int .u64 0, .int .i64 0, .int .i64 0], .int .i64 0, .int .i64 0], []⟩).memory :=
  laidMet_of_run' 8 (by kernel_rfl) (by kernel_rfl)
theorem witness_row (os : Os) {H : Type} (enc : TypeId × Value → H) :
    (OpenSpec.ofChange Rows.flightLetsSpec).preRow enc Tryz.prog Tryz.f9 Rows.flightLetsRow.domain false Rows.flightLetsRow.laid ((laidWorld os).forCall (fun _ _ => 0) ⟨#[], #[.agg #[.string ByteArray.empty, .string ByteArray.empty, .string ByteArray.empty, .int .i64 0, .bool false, .slice none 0 0, .int .i64 0, .int .u64 0, .int .i64 0, .int .i64 0], .int .i64 0, .int .i64 0], []⟩).memory #[.agg #[.string ByteArray.empty, .string ByteArray.empty, .string ByteArray.empty, .int .i64 0, .bool false, .slice none 0 0, .int .i64 0, .int .u64 0, .int .i64 0, .int .i64 0], .int .i64 0, .int .i64 0] := by
  have hw : (DataW.whole enc Tryz.prog ((laidWorld os).forCall (fun _ _ => 0) ⟨#[], #[.agg #[.string ByteArray.empty, .string ByteArray.empty, .string ByteArray.empty, .int .i64 0, .bool false, .slice none 0 0, .int .i64 0, .int .u64 0, .int .i64 0, .int .i64 0], .int .i64 0, .int .i64 0], []⟩).memory Tryz.f9.params.toList Rows.flightLetsSpec.vars false (#[.agg #[.string ByteArray.empty, .string ByteArray.empty, .string ByteArray.empty, .int .i64 0, .bool false, .slice none 0 0, .int .i64 0, .int .u64 0, .int .i64 0, .int .i64 0], .int .i64 0, .int .i64 0] : Array Value).toList 8).map (fun x => (x.1, x.2.1)) =
      some ([.agg [.lit (.string []), .lit (.string []), .lit (.string []), .lit (.int .i64 0), .lit (.bool false), .nil, .lit (.int .i64 0), .lit (.int .u64 0), .lit (.int .i64 0), .lit (.int .i64 0)], .lit (.int .i64 0), .lit (.int .i64 0)], []) := by kernel_rfl
  obtain ⟨⟨x1, x2, x3⟩, hx, hx1⟩ := Option.map_eq_some_iff.1 hw
  simp only [Prod.mk.injEq] at hx1
  obtain ⟨rfl, rfl⟩ := hx1
  exact OpenSpec.preRow_of_cond 8 hx (by kernel_rfl) (fun k hk => by cases hk) (by kernel_rfl) (laid_met os)
set_option maxRecDepth 100000 in
theorem lifted (os : Os) (started : os.Started) (H : Type) (enc : TypeId × Value → H) (F : Stop.Interp) :
    ReturnsInHanded {} Tryz.checked os 9 .any ((OpenSpec.ofChange Rows.flightLetsSpec).preRow enc Tryz.prog Tryz.f9 Rows.flightLetsRow.domain false Rows.flightLetsRow.laid) (((OpenSpec.ofChange Rows.flightLetsSpec).at F).post enc Tryz.prog Tryz.f9 false true false false) := by
  refine returnsInHanded_of_row (C := Tryz.checked) (s := (OpenSpec.ofChange Rows.flightLetsSpec)) own started (by kernel_rfl) Tryz.func9
    (witness_row_atRef (enc := enc) (C := Tryz.checked) false (laidWorld os) #[.agg #[.string ByteArray.empty, .string ByteArray.empty, .string ByteArray.empty, .int .i64 0, .bool false, .slice none 0 0, .int .i64 0, .int .u64 0, .int .i64 0, .int .i64 0], .int .i64 0, .int .i64 0] rfl (by kernel_rfl) (by kernel_rfl) (by kernel_rfl) (witness_row os enc)) ?_
  intro W base args ds gs before hval0 hW hcnd hk0 hsz0 hL hsh0 _
  have hsz : (DataW.weightsEach Tryz.prog (Tryz.f9.params.toList ++ Rows.flightLetsSpec.plain.varTypes Tryz.prog) (ds ++ gs)).all (· ≤ reachBytes) = true := hsz0
  have hval : ∀ (j : Nat) t v, Tryz.f9.params[j]? = some t → args[j]? = some v → Value.okWide Tryz.prog W .any base t v := hval0
  have hW' := hW
  obtain ⟨p, q, hA0, hV, rfl, hfz, hnd⟩ := hW
  have hA : DataW.TrodAll enc Tryz.prog W 0 (fun _ => true) true Tryz.f9.params.toList args.toList ds p := hA0
  rw [Tryz.params9] at hA hval hsz
  obtain ⟨v0, vs0, d0, ds0, p0, q0, hargs, rfl, rfl, h0, r0⟩ := trodAll_cons hA
  obtain ⟨v1, vs1, d1, ds1, p1, q1, rfl, rfl, rfl, h1, r1⟩ := trodAll_cons r0
  obtain ⟨v2, vs2, d2, ds2, p2, q2, rfl, rfl, rfl, h2, r2⟩ := trodAll_cons r1
  obtain ⟨rfl, rfl, rfl⟩ := trodAll_nil r2
  obtain rfl : args = #[v0, v1, v2] := by cases args; simp_all
  obtain ⟨rfl, rfl⟩ := trodVars_none hV
  have k0 := h0
  have lt0 : ∀ x ∈ p0, x.block < W.heap.size := by obtain ⟨m, hm⟩ := k0; exact DataW.trod_lt m _ _ _ hm
  obtain ⟨cs0, rfl, hz0⟩ := okWide_struct Tryz.underlying26 (hval 0 26 v0 rfl rfl)
  obtain ⟨x0, hk0, b0⟩ := opn_trod opnT26 h0
  obtain ⟨_, _, e0_, rfl, _, _, rfl, rfl, _, _, rfl, rfl, _, _, rfl, rfl, _, _, rfl, rfl, _, _, rfl, ⟨A0_5, c0_5, rfl, hc0_5, hr0_5⟩, _, _, rfl, rfl, _, _, rfl, rfl, _, _, rfl, rfl, rfl⟩ := hk0
  obtain rfl : cs0 = #[.string x0.f0, .string x0.f1, .string x0.f2, .int .i64 x0.f3, .bool x0.f4, .slice A0_5 x0.f5.length c0_5, .int .i64 x0.f6, .int .u64 x0.f7, .int .i64 x0.f8, .int .i64 x0.f9] := by cases cs0; simpa [Value.cells] using e0_
  obtain ⟨a1, rfl, rfl, rfl, b1⟩ := open_int Tryz.underlying3 (hval 1 3 v1 rfl rfl) h1
  obtain ⟨a2, rfl, rfl, rfl, b2⟩ := open_int Tryz.underlying3 (hval 2 3 v2 rfl rfl) h2
  clear hA0 hval0 hsz0 hsz
  obtain ⟨kk, hp⟩ := Pure.FlightLets x0 a1 a2 b0 b1 b2
  have hM_ : Aside0 (Pr.LaidW W) := ⟨Go.Proofs.cell_of_shapedOpen_int (zero := #[.int .i64 0]) (t := 3) hsh0 (of_decide_eq_true (by kernel_rfl)) (by kernel_rfl) rfl (by kernel_rfl) (by kernel_rfl) Tryz.underlying3, laid_tab hL⟩
  refine (lockkeeperlaw17_FlightLets.calls (k := kk) (a0_0 := x0.f0) (a0_1 := x0.f1) (a0_2 := x0.f2) (a0_3 := x0.f3) (a0_4 := x0.f4) (A0_5 := A0_5) (c0_5 := c0_5) (l0_5 := x0.f5) (a0_6 := x0.f6) (a0_7 := x0.f7) (a0_8 := x0.f8) (a0_9 := x0.f9) (a1 := a1) (a2 := a2) (r := true) (w := W) (hr0_5 := hr0_5) (hc0_5 := hc0_5) (hM_ := hM_) (hr_ := rfl) (h := hp)).mono fun e W' ⟨he, hbel⟩ => ?_
  have bel : Below W.heap.size W W' := hbel
  subst he
  exact ⟨_, rfl, _, _, _, [], _, [], hW', trodAll_mk1 (shut_bool Tryz.underlying4 _), (trodAll_cons_mk (Below.trod laidOut (by kernel_rfl) (of_decide_eq_true (by kernel_rfl)) k0 bel lt0) (trodAll_cons_mk (shut_int Tryz.underlying3 b1) (trodAll_cons_mk (shut_int Tryz.underlying3 b2) trodAll_mk0))), rfl, bel.frame _, fun h => by cases h⟩
theorem said : Rows.FlightLetsSaid :=
  OpenClaim.holds_of_cond 9 Tryz.f9 rfl rfl rfl rfl rfl rfl rfl ⟨rfl, rfl, rfl, rfl, rfl⟩ rfl rfl rfl rfl rfl (by kernel_rfl) Tryz.func9 (by kernel_rfl)
    (of_decide_eq_true (by kernel_rfl)) (by unfold Func.isWrapper; first | (rw [if_pos (by decide +kernel)]; kernel_rfl) | (rw [if_neg (by decide +kernel)]; exact ⟨rfl, rfl⟩))
    (fun os started H enc _ F => by rw [OpenClaim.pre_eq_preRow]; exact lifted os started H enc F)
theorem plain (f : FuncId) (fn : Func) (hf : Tryz.pinned.checked.prog.funcNamed Rows.flightLetsRow.func = some f) (hfn : Tryz.pinned.checked.prog.funcs[f]? = some fn) :
    false = Tryz.pinned.checked.prog.looks [] ∧ ∀ (j : Nat) t, fn.params[j]? = some t → Tryz.pinned.checked.prog.wantsStandIn t = false := by
  obtain rfl : f = 9 := Option.some.inj ((show Tryz.prog.funcNamed Rows.flightLetsRow.func = some 9 by kernel_rfl).symm.trans hf) |>.symm
  obtain rfl : fn = Tryz.f9 := (Option.some.inj (Tryz.func9.symm.trans hfn)).symm
  refine ⟨by kernel_rfl, fun j t ht => ?_⟩
  rw [Tryz.params9] at ht
  have hm := Array.mem_of_getElem? ht
  simp only [List.mem_toArray, List.mem_cons, List.not_mem_nil, or_false] at hm
  rcases hm with rfl | rfl | rfl
  · exact (show Tryz.prog.wantsStandIn 26 = false by kernel_rfl)
  · exact (show Tryz.prog.wantsStandIn 3 = false by kernel_rfl)
  · exact (show Tryz.prog.wantsStandIn 3 = false by kernel_rfl)
theorem card : Rows.FlightLetsCardSaid :=
  Claim7.holds_tied_plain_at .later [] _ _ _ _ said (fun _ h => by cases h) (by kernel_rfl) (fun _ h => by cases h) flightLets_row_tie rfl ⟨rfl, rfl⟩ (by kernel_rfl) rfl plain (by kernel_rfl)
end Go.Proofs.YtfmajangcbgooaaGreatDoor.flightLets
namespace Go.Proofs.YtfmajangcbgooaaGreatDoor
/-- The card, under a short name, for the claim. -/
theorem flightLets_holds : Rows.FlightLetsCardSaid := flightLets.card
end Go.Proofs.YtfmajangcbgooaaGreatDoor
