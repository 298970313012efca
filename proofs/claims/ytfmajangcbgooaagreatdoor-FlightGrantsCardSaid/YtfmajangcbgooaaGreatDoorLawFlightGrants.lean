/- The row of FlightGrants, out of its printed contract and its pure statement: for every input, with no condition. (Written by wip/xp/xrow.py.) -/
import Derived.Test.YtfmajangcbgooaaGreatDoorBFlightGrants
import Derived.Test.YtfmajangcbgooaaGreatDoorR1
import Derived.Test.YtfmajangcbgooaaGreatDoorPr90
import Derived.Test.YtfmajangcbgooaaGreatDoorRows
import Derived.WalkKit
import Derived.ProofKit
import Derived.OpenShut
import Derived.ShutString
import Derived.ChangeOld
import Derived.Below
import Derived.SizedLaws
import Derived.Carry
import Derived.LaidSub
import Derived.Shelf.Vars
import Derived.Test.YtfmajangcbgooaaGreatDoorCards
import Derived.Test.YtfmajangcbgooaaGreatDoorTie
import Derived.Deep.DeepHandedRow
import Derived.Deep.DeepWitnessRowRef
import Derived.Lib.LaidTab

/- The law FlightGrants tells true for every request, status, row of headers and times (of the form's own reach). -/
namespace Go.Proofs.YtfmajangcbgooaaGreatDoor.Pure
open Go.RowKit Go.Proofs.YtfmajangcbgooaaGreatDoor.Pr Go.Proofs.YtfmajangcbgooaaGreatDoorW.PrintWords Go.Proofs.YtfmajangcbgooaaGreatDoorW.PrintLast
set_option linter.unusedVariables false
set_option linter.unusedSimpArgs false

theorem evIte' {P : Prop} [Decidable P] {α : Type} {f g : Nat → Option α} {r : α} (h1 : P → Ev f r) (h2 : ¬ P → Ev g r) : Ev (fun k => if P then f k else g k) r := by
  by_cases h : P
  · exact evPos h (h1 h)
  · exact evNeg h (h2 h)
theorem HT_small {l : List Hd} (h : HSmall l) : HT l := ⟨by have := h.1; omega, fun x hx => by have := h.2 x hx; omega⟩
theorem getS_small {l : List Hd} (h : HSmall l) (name : ByteArray) : (getS l name).1.size ≤ 200080 := by
  have h1 := joinS_size (vals l name) 5000 (fun s hs => by
    obtain ⟨x, hx, rfl⟩ := List.mem_map.1 hs
    have := trimS_size x.f1
    have := (h.2 x (List.mem_filter.1 hx).1).2
    omega)
  have h2 := vals_length l name
  have h3 := h.1
  have : (vals l name).length * (5000 + 2) ≤ 40 * (5000 + 2) := Nat.mul_le_mul_right _ (by omega)
  show (joinS (vals l name)).size ≤ _
  omega
theorem meth_tok {m : ByteArray} (h : methS m = 0) : tokS m = true ∧ m.size ≤ 32 := by
  unfold methS at h
  split at h
  · rename_i h1
    split at h
    · exact absurd h (by decide)
    · exact ⟨h1, by omega⟩
  · exact absurd h (by decide)
theorem some_of {x : ByteArray} (h : x.data.toList ≠ []) : x.toList.isEmpty = false := by
  rw [tl x]
  cases e : x.data.toList with
  | nil => exact absurd e h
  | cons a r => rfl
theorem tok_some {x : ByteArray} (h : tokS x = true) : x.toList.isEmpty = false := some_of (toks_text h).2
theorem low_some {x : ByteArray} (h : x.toList.isEmpty = false) : (lowB x).toList.isEmpty = false := by
  refine some_of fun e => ?_
  have h1 := lowB_size x
  rw [size_len, size_len, e] at h1
  rw [tl x] at h
  have h2 : x.data.toList = [] := List.eq_nil_of_length_eq_zero (by simpa using h1.symm)
  rw [h2] at h
  cases h
/-! ### what a judged answer is -/
theorem judge_ok {m u o : ByteArray} {mode : Int} {creds : Bool} {l : List Hd} {cls tmo grp sig status : Int} {L : List Hd} (h : (judgeS m u o mode creds l cls tmo grp sig status L).2.2.2 = 0) :
    needsS m u o mode l cls tmo grp sig = true ∧ judgeS m u o mode creds l cls tmo grp sig status L = ((readS L).1, (readS L).2.1, (readS L).2.2.1, 0) ∧ (readS L).2.2.2 = 0 ∧ hasS (readS L).1 (mnormS m) creds = true ∧ ((snames l).all fun n => covS (readS L).2.1 n creds) = true := by
  unfold judgeS at h ⊢
  by_cases h1 : needsS m u o mode l cls tmo grp sig = true
  case neg => rw [if_neg h1] at h; exact absurd h (by decide)
  rw [if_pos h1] at h ⊢
  by_cases h2 : corsS (toldO o) creds L = 0
  case neg => rw [if_neg h2] at h; exact absurd h h2
  rw [if_pos h2] at h ⊢
  have key : ∀ b, (statS b (mnormS m) creds (snames l) L).2.2.2 = 0 → statS b (mnormS m) creds (snames l) L = ((readS L).1, (readS L).2.1, (readS L).2.2.1, 0) ∧ (readS L).2.2.2 = 0 ∧ hasS (readS L).1 (mnormS m) creds = true ∧ ((snames l).all fun n => covS (readS L).2.1 n creds) = true := by
    intro b hb
    unfold statS lastJ at hb ⊢
    by_cases h3 : b = true
    · rw [if_pos h3] at hb; exact absurd hb (by decide)
    rw [if_neg h3] at hb ⊢
    by_cases h4 : (readS L).2.2.2 = 0
    case neg => rw [if_neg h4] at hb; exact absurd hb h4
    rw [if_pos h4] at hb ⊢
    by_cases h5 : hasS (readS L).1 (mnormS m) creds = true
    case neg => rw [if_neg h5] at hb; exact absurd hb (by decide)
    rw [if_pos h5] at hb ⊢
    by_cases h6 : ((snames l).all fun n => covS (readS L).2.1 n creds) = true
    case neg => rw [if_neg h6] at hb; exact absurd hb (by decide)
    rw [if_pos h6]
    exact ⟨rfl, h4, h5, h6⟩
  refine ⟨h1, ?_⟩
  by_cases h7 : status < 200
  · rw [if_pos h7] at h ⊢
    exact key _ h
  · rw [if_neg h7] at h ⊢
    exact key _ h
theorem judge_err {m u o : ByteArray} {mode : Int} {creds : Bool} {l : List Hd} {cls tmo grp sig status : Int} {L : List Hd} (h : ¬ (judgeS m u o mode creds l cls tmo grp sig status L).2.2.2 = 0) :
    (judgeS m u o mode creds l cls tmo grp sig status L).1 = [] ∧ (judgeS m u o mode creds l cls tmo grp sig status L).2.1 = [] := by
  have key : ∀ b, ¬ (statS b (mnormS m) creds (snames l) L).2.2.2 = 0 → (statS b (mnormS m) creds (snames l) L).1 = [] ∧ (statS b (mnormS m) creds (snames l) L).2.1 = [] := by
    intro b hb
    unfold statS lastJ at hb ⊢
    by_cases h3 : b = true
    · rw [if_pos h3]; exact ⟨rfl, rfl⟩
    rw [if_neg h3] at hb ⊢
    by_cases h4 : (readS L).2.2.2 = 0
    case neg => rw [if_neg h4]; exact ⟨rfl, rfl⟩
    rw [if_pos h4] at hb ⊢
    by_cases h5 : hasS (readS L).1 (mnormS m) creds = true
    case neg => rw [if_neg h5]; exact ⟨rfl, rfl⟩
    rw [if_pos h5] at hb ⊢
    by_cases h6 : ((snames l).all fun n => covS (readS L).2.1 n creds) = true
    case neg => rw [if_neg h6]; exact ⟨rfl, rfl⟩
    rw [if_pos h6] at hb
    exact absurd rfl hb
  unfold judgeS at h ⊢
  by_cases h1 : needsS m u o mode l cls tmo grp sig = true
  case neg => rw [if_neg h1]; exact ⟨rfl, rfl⟩
  rw [if_pos h1] at h ⊢
  by_cases h2 : corsS (toldO o) creds L = 0
  case neg => rw [if_neg h2]; exact ⟨rfl, rfl⟩
  rw [if_pos h2] at h ⊢
  by_cases h7 : status < 200
  · rw [if_pos h7] at h ⊢
    exact key _ h
  · rw [if_neg h7] at h ⊢
    exact key _ h
theorem toks_all (L : List Hd) (n : ByteArray) : ∀ x ∈ (toksS L n).1, tokS x = true := by
  unfold toksS
  split
  · rename_i h
    exact List.all_eq_true.1 h
  · simp
theorem toks_count {L : List Hd} (h : HSmall L) (n : ByteArray) : (toksS L n).1.length ≤ 200081 := by
  have h1 := getS_small h n
  have h2 := splitS_length (getS L n).1
  unfold toksS
  split
  · dsimp only; omega
  · simp
theorem read_facts {L : List Hd} (h : HSmall L) : (∀ x ∈ (readS L).1, tokS x = true) ∧ (∀ x ∈ (readS L).2.1, x.toList.isEmpty = false) ∧ (readS L).1.length ≤ 200081 ∧ (readS L).2.1.length ≤ 200081 ∧ 0 ≤ (readS L).2.2.1 ∧ (readS L).2.2.1 ≤ 7200 := by
  have h1 := toks_all L sMeths
  have h2 := toks_all L sHeads
  have h3 := toks_count h sMeths
  have h4 := toks_count h sHeads
  have h5 : 0 ≤ ageS (getS L sAge).1 ∧ ageS (getS L sAge).1 ≤ 7200 := by
    have := digS_nonneg (trimS (getS L sAge).1)
    unfold ageS mn
    split
    · split <;> omega
    · omega
  unfold readS
  split
  · split
    · refine ⟨h1, fun x hx => ?_, h3, by simpa using h4, h5.1, h5.2⟩
      obtain ⟨y, hy, rfl⟩ := List.mem_map.1 hx
      exact low_some (tok_some (h2 y hy))
    · exact ⟨by simp, by simp, by simp, by simp, by decide, by decide⟩
  · exact ⟨by simp, by simp, by simp, by simp, by decide, by decide⟩
/-! ### what the entries hold -/
theorem eqE_self (e : S64) : eqE e e = true := by
  unfold eqE
  simp
theorem addE_any {xs : List S64} {e : S64} {p : S64 → Bool} (h : xs.any p = true) : (addE xs e).any p = true := by
  unfold addE
  split
  · exact h
  · rw [List.any_append, h, Bool.true_or]
theorem addE_self (xs : List S64) (e : S64) : (addE xs e).any (eqE e) = true := by
  unfold addE
  split
  · assumption
  · rw [List.any_append]
    simp [eqE_self]
section
variable {a b : ByteArray} {c : Bool} {un : Int}
theorem rowM_any {p : S64 → Bool} (ms : List ByteArray) : ∀ xs, xs.any p = true → (rowM a b c un ms xs).any p = true := by
  induction ms with
  | nil => exact fun _ h => h
  | cons m r ih => exact fun xs h => ih _ (addE_any h)
theorem rowH_any {p : S64 → Bool} (ms : List ByteArray) : ∀ xs, xs.any p = true → (rowH a b c un ms xs).any p = true := by
  induction ms with
  | nil => exact fun _ h => h
  | cons m r ih => exact fun xs h => ih _ (addE_any h)
theorem rowM_hit {m : ByteArray} (ms : List ByteArray) (h : m ∈ ms) : ∀ xs, (rowM a b c un ms xs).any (eqE ⟨⟨a, b, c⟩, m, ⟨#[]⟩, un⟩) = true := by
  induction ms with
  | nil => cases h
  | cons x r ih =>
    intro xs
    rcases List.mem_cons.1 h with rfl | h
    · exact rowM_any r _ (addE_self xs _)
    · exact ih h _
theorem rowH_hit {m : ByteArray} (ms : List ByteArray) (h : m ∈ ms) : ∀ xs, (rowH a b c un ms xs).any (eqE ⟨⟨a, b, c⟩, ⟨#[]⟩, m, un⟩) = true := by
  induction ms with
  | nil => cases h
  | cons x r ih =>
    intro xs
    rcases List.mem_cons.1 h with rfl | h
    · exact rowH_any r _ (addE_self xs _)
    · exact ih h _
theorem hit_has {g : List S64} {m h : ByteArray} {t : Int} (hi : g.any (eqE ⟨⟨a, b, c⟩, m, h, un⟩) = true) (ht : t < un) : hasE g ⟨⟨a, b, c⟩, m, h, 0⟩ t = true := by
  obtain ⟨x, hx, he⟩ := List.any_eq_true.1 hi
  unfold hasE
  refine List.any_eq_true.2 ⟨x, hx, ?_⟩
  unfold eqE at he
  simp only [Bool.and_eq_true, beq_iff_eq] at he
  obtain ⟨⟨h1, h2, h3⟩, h4, h5, h6⟩ := he
  unfold sameE
  dsimp only
  rw [← h1, ← h2, ← h3, ← h4, ← h5, ← h6, if_pos (by simp), if_pos rfl]
  simpa using ht
theorem has_not {g : List S64} (hg : ∀ x ∈ g, x.f3 = un) (e : S64) {t : Int} (ht : ¬ t < un) : hasE g e t = false := by
  unfold hasE
  rw [List.any_eq_false]
  intro x hx
  rw [hg x hx, decide_eq_false ht]
  simp
end
theorem star_eq : sStar = ⟨#[42]⟩ := by rfl
theorem low_eq (n : ByteArray) : lowS n = lowB n := lowS_eq n
theorem cov_yes {a b : ByteArray} {creds : Bool} {un t : Int} {M H names : List ByteArray} {n1 : ByteArray} (ht : t < un) (hM : ∀ x ∈ M, tokS x = true) (hH : ∀ x ∈ H, x.toList.isEmpty = false)
    (has : hasS M n1 creds = true) (hall : (names.all fun n => covS H n creds) = true) : covC (rowH a b creds un H (rowM a b creds un (msG M n1) [])) a b creds (safeM n1) n1 names t = true := by
  unfold covC
  rw [Bool.and_eq_true, List.all_eq_true]
  have hm : ∀ x ∈ M, hasE (rowH a b creds un H (rowM a b creds un (msG M n1) [])) ⟨⟨a, b, creds⟩, x, ⟨#[]⟩, 0⟩ t = true := by
    intro x hx
    refine hit_has (un := un) (rowH_any H _ (rowM_hit _ ?_ _)) ht
    unfold msG
    rw [if_neg (by rintro rfl; cases hx)]
    exact hx
  have hh : ∀ x ∈ H, hasE (rowH a b creds un H (rowM a b creds un (msG M n1) [])) ⟨⟨a, b, creds⟩, ⟨#[]⟩, x, 0⟩ t = true := fun x hx => hit_has (un := un) (rowH_hit H hx _) ht
  generalize rowH a b creds un H (rowM a b creds un (msG M n1) []) = g at hm hh
  constructor
  · unfold hasS at has
    by_cases h1 : safeM n1 = true
    · rw [h1, Bool.true_or]
    rw [if_neg h1] at has
    rw [Bool.or_eq_true]
    refine .inr ?_
    unfold methC
    rw [Bool.or_eq_true]
    by_cases h2 : Lib.containsS M n1 = true
    · have h3 := (Lib.containsS_iff _ _).1 h2
      refine .inl ?_
      rw [tok_some (hM _ h3), hm _ h3]
      rfl
    rw [if_neg h2] at has
    by_cases h3 : creds = true
    · rw [if_pos h3] at has
      cases has
    rw [if_neg h3] at has
    refine .inr ?_
    have h4 := hm _ ((Lib.containsS_iff _ _).1 has)
    rw [star_eq] at h4
    rw [h4]
    simpa using h3
  · intro n hn
    have h0 := List.all_eq_true.1 hall n hn
    unfold covS at h0
    unfold headC
    rw [low_eq, Bool.or_eq_true]
    by_cases h2 : Lib.containsS H (lowB n) = true
    · have h3 := (Lib.containsS_iff _ _).1 h2
      refine .inl ?_
      rw [hH _ h3, hh _ h3]
      rfl
    rw [if_neg h2] at h0
    by_cases h3 : creds = true
    · rw [if_pos h3] at h0
      cases h0
    rw [if_neg h3] at h0
    by_cases h4 : (lowB n).toList = ([97, 117, 116, 104, 111, 114, 105, 122, 97, 116, 105, 111, 110] : List UInt8)
    · rw [if_pos h4] at h0
      cases h0
    rw [if_neg h4] at h0
    refine .inr ?_
    have h5 := hh _ ((Lib.containsS_iff _ _).1 h0)
    rw [star_eq] at h5
    rw [h5, Bool.and_true, Bool.and_eq_true]
    refine ⟨by simpa using h3, ?_⟩
    show ((lowB n).toList != ([97, 117, 116, 104, 111, 114, 105, 122, 97, 116, 105, 111, 110] : List UInt8)) = true
    simpa using h4
theorem cov_no {a b : ByteArray} {creds sf : Bool} {un t : Int} {g : List S64} {names : List ByteArray} {n1 : ByteArray} (ht : ¬ t < un) (hg : ∀ x ∈ g, x.f3 = un) (hn : sf = true → names ≠ []) : covC g a b creds sf n1 names t = false := by
  unfold covC methC headC
  simp only [has_not hg _ ht, Bool.and_false, Bool.or_false]
  cases sf with
  | false => rfl
  | true =>
    cases names with
    | nil => exact absurd rfl (hn rfl)
    | cons x r => rfl
theorem tick_f (now age : Int) (h1 : 0 ≤ now) (h2 : now ≤ 4611686018427387904) (h3 : 0 ≤ age) (h4 : age ≤ 7200) : tick_Add.f now age = some (now + age) := by
  unfold tick_Add.f
  have e1 : IntKind.u64.wrap (18446744073709551615 - now) = 18446744073709551615 - now := by rw [IntKind.wrap_u64]; omega
  have e2 : IntKind.u64.wrap (now + age) = now + age := by rw [IntKind.wrap_u64]; omega
  rw [e1, e2, if_neg (by omega)]
theorem FlightGrants : ∀ (x0 : S26) (a1 : Int) (l2 : List (S28)) (a3 : Int) (a4 : Int), (bT26 x0) → (Lit.int .i64 a1).wf = true → (l2.length ≤ maxLen ∧ ∀ x_ ∈ l2, bT28 x_) → (Lit.int .u64 a3).wf = true → (Lit.int .u64 a4).wf = true → ∃ k, lockkeeperlaw17_FlightGrants.f k x0.f0 x0.f1 x0.f2 x0.f3 x0.f4 x0.f5 x0.f6 x0.f7 x0.f8 x0.f9 a1 l2 a3 a4 = some true := by
  rintro ⟨m, u, o, mode, creds, l, cls, tmo, grp, sig⟩ status L now later _ _ _ w1 w2
  dsimp only
  have hs1 : 0 ≤ now := by
    have := w1
    simp [Lit.wf] at this
    have e : IntKind.u64.min = 0 := by rfl
    omega
  have hs2 : 0 ≤ later := by
    have := w2
    simp [Lit.wf] at this
    have e : IntKind.u64.min = 0 := by rfl
    omega
  refine Ev.rounds (g := fun k => lockkeeperlaw17_FlightGrants.f k m u o mode creds l cls tmo grp sig status L now later) ?_
  unfold lockkeeperlaw17_FlightGrants.f
  obtain ⟨b, hb, hB⟩ := greatR_ev m u o mode creds l cls tmo grp sig
  obtain ⟨b2, hb2, hB2⟩ := great_ev L
  refine Ev.bind hb (Ev.bind hb2 (Ev.bind awake17_ev (evPos rfl ?_)))
  refine evIte' (fun _ => Ev.now _) fun hg => ?_
  obtain rfl : b = false := Bool.eq_false_iff.2 fun h_ => hg (.inl h_)
  obtain rfl : b2 = false := Bool.eq_false_iff.2 fun h_ => hg (.inr (.inl h_))
  have g3 : now ≤ 4611686018427387904 := Int.not_lt.1 fun h_ => hg (.inr (.inr (.inl h_)))
  have g4 : later ≤ 4611686018427387904 := Int.not_lt.1 fun h_ => hg (.inr (.inr (.inr h_)))
  obtain ⟨h1, h2, h3, h4⟩ := hB rfl
  have hR : RS m u o l := ⟨by omega, by omega, by omega, small_ok h4⟩
  have hL := hB2 rfl
  refine Ev.bind (judge_ev m u o mode creds l cls tmo grp sig status L hR (HT_small hL)) ?_
  by_cases he : (judgeS m u o mode creds l cls tmo grp sig status L).2.2.2 = 0
  case neg =>
    obtain ⟨e1, e2⟩ := judge_err he
    exact evNeg he (evPos ⟨by rw [e1]; rfl, by rw [e2]; rfl⟩ (Ev.now _))
  obtain ⟨j1, j2, j3, j4, j5⟩ := judge_ok he
  refine evPos he ?_
  rw [j2]
  dsimp only
  have hne := needs_ask j1
  refine Ev.bind (evEq (needs_ev m u o mode creds l cls tmo grp sig hR) j1) (evPos rfl ?_)
  obtain ⟨r1, r2, r3, r4, r5, r6⟩ := read_facts hL
  refine evIte' (fun _ => Ev.now _) fun ha => ?_
  have ha1 : 0 < (readS L).2.2.1 := by omega
  have hcell : cellR m u o mode creds l cls tmo grp sig = (toldO o, toldU u, creds) := by
    unfold cellR
    rw [normR_ok hne]
  refine evBind (tick_f now _ hs1 g3 r5 r6) (Ev.bind (evEq (acell_ev m u o mode creds l cls tmo grp sig hR) hcell) (Ev.bind (evEq (anorm_ev m u o mode creds l cls tmo grp sig hR) (normR_ok hne)) ?_))
  dsimp only
  unfold mainG
  refine evPos ⟨by omega, by omega, ha1, hs1, hs2⟩ (evIte' (fun _ => Ev.now _) fun _ => ?_)
  obtain ⟨p1, p2, p3, p4⟩ := ask_parts0 hne
  obtain ⟨q1, q2⟩ := field_parts0 p3
  have htok := meth_tok (meth_norm m q1)
  have hz := snames_size l hR.2.2.2
  have hnm : namesR m u o mode l cls tmo grp sig = snames l := if_pos hne
  refine Ev.bind (evEq (anames_ev m u o mode creds l cls tmo grp sig hR) hnm) (Ev.bind (safeM_ev _ (by omega)) ?_)
  have c1 : ((msG (readS L).1 (mnormS m)).all fun m => !m.toList.isEmpty) = true := by
    rw [List.all_eq_true]
    intro x hx
    unfold msG at hx
    split at hx
    · rw [List.mem_singleton.1 hx, tok_some htok.1]
      rfl
    · rw [tok_some (r1 x hx)]
      rfl
  have c2 : ((readS L).2.1.all fun m => !m.toList.isEmpty) = true := by
    rw [List.all_eq_true]
    intro x hx
    rw [r2 x hx]
    rfl
  have c3 : ((snames l).all fun n => decide (n.size ≤ 9223372036854775807)) = true := by
    rw [List.all_eq_true]
    intro x hx
    have := hz.2 x hx
    exact decide_eq_true (by omega)
  have e2 : IntKind.u64.wrap (now + later) = now + later := by rw [IntKind.wrap_u64]; omega
  have hun : ∀ x ∈ rowH (toldO o) (toldU u) creds (now + (readS L).2.2.1) (readS L).2.1 (rowM (toldO o) (toldU u) creds (now + (readS L).2.2.1) (msG (readS L).1 (mnormS m)) []), x.f3 = now + (readS L).2.2.1 := fun x hx =>
    ((InvG.rowH _ c2 _ (InvG.rowM _ c1 _ ⟨by simp, List.Pairwise.nil⟩)).1 x hx).2.1
  have c4 : covC (rowH (toldO o) (toldU u) creds (now + (readS L).2.2.1) (readS L).2.1 (rowM (toldO o) (toldU u) creds (now + (readS L).2.2.1) (msG (readS L).1 (mnormS m)) [])) (toldO o) (toldU u) creds (safeM (mnormS m)) (mnormS m) (snames l) (IntKind.u64.wrap (now + later)) = decide (later < (readS L).2.2.1) := by
    rw [e2]
    by_cases hlt : later < (readS L).2.2.1
    · rw [decide_eq_true hlt]
      exact cov_yes (by omega) r1 r2 j4 j5
    · rw [decide_eq_false hlt]
      refine cov_no (by omega) hun fun hsf hnil => ?_
      rw [safeM_norm] at hsf
      unfold needsS at j1
      have : plainS m l = true := by
        unfold plainS
        rw [if_pos hsf, hnil]
        rfl
      rw [this] at j1
      split at j1
      · split at j1 <;> cases j1
      · cases j1
  exact evPos ⟨by omega, c1, c2, c3, by omega, c4⟩ (Ev.now _)
end Go.Proofs.YtfmajangcbgooaaGreatDoor.Pure
namespace Go.Proofs.YtfmajangcbgooaaGreatDoor.flightGrants
open Go.ChangeShapes Go.WideShapes Go.ChangeAt Go.RowKit Go.Proofs.YtfmajangcbgooaaGreatDoorW.PrintWords Go.Proofs.YtfmajangcbgooaaGreatDoor.Pr
open Go.ChangeMaps (open_string shut_string)
set_option linter.unusedVariables false
theorem own : ownKnob Tryz.prog.godebug = none := by kernel_rfl
theorem laidOut : laidOutB Tryz.prog = true := by kernel_rfl
/-- A world for the witness: the settled one, the listed variables holding what they are laid with. -/
noncomputable def laidWorld (os : Os) : World :=
  let w0 := World.holding Tryz.prog os ⟨#[], #[], []⟩
  let put (h : Array Obj) (g : Nat) (cs : Array Value) : Array Obj := h.modify g fun
    | .cells _ t frozen => .cells cs t frozen
    | o => o
  let h1 := put w0.heap 4 #[Value.int .u8 0, Value.int .u8 1, Value.int .u8 28, Value.int .u8 2, Value.int .u8 29, Value.int .u8 14, Value.int .u8 24, Value.int .u8 3, Value.int .u8 30, Value.int .u8 22, Value.int .u8 20, Value.int .u8 15, Value.int .u8 25, Value.int .u8 17, Value.int .u8 4, Value.int .u8 8, Value.int .u8 31, Value.int .u8 27, Value.int .u8 13, Value.int .u8 23, Value.int .u8 21, Value.int .u8 19, Value.int .u8 16, Value.int .u8 7, Value.int .u8 26, Value.int .u8 12, Value.int .u8 18, Value.int .u8 6, Value.int .u8 11, Value.int .u8 5, Value.int .u8 10, Value.int .u8 9]
  let h2 := put h1 5 #[Value.int .u8 0, Value.int .u8 1, Value.int .u8 56, Value.int .u8 2, Value.int .u8 57, Value.int .u8 49, Value.int .u8 28, Value.int .u8 3, Value.int .u8 61, Value.int .u8 58, Value.int .u8 42, Value.int .u8 50, Value.int .u8 38, Value.int .u8 29, Value.int .u8 17, Value.int .u8 4, Value.int .u8 62, Value.int .u8 47, Value.int .u8 59, Value.int .u8 36, Value.int .u8 45, Value.int .u8 43, Value.int .u8 51, Value.int .u8 22, Value.int .u8 53, Value.int .u8 39, Value.int .u8 33, Value.int .u8 30, Value.int .u8 24, Value.int .u8 18, Value.int .u8 12, Value.int .u8 5, Value.int .u8 63, Value.int .u8 55, Value.int .u8 48, Value.int .u8 27, Value.int .u8 60, Value.int .u8 41, Value.int .u8 37, Value.int .u8 16, Value.int .u8 46, Value.int .u8 35, Value.int .u8 44, Value.int .u8 21, Value.int .u8 52, Value.int .u8 32, Value.int .u8 23, Value.int .u8 11, Value.int .u8 54, Value.int .u8 26, Value.int .u8 40, Value.int .u8 15, Value.int .u8 34, Value.int .u8 20, Value.int .u8 31, Value.int .u8 10, Value.int .u8 25, Value.int .u8 14, Value.int .u8 19, Value.int .u8 9, Value.int .u8 13, Value.int .u8 8, Value.int .u8 7, Value.int .u8 6]
  let h3 := put h2 1 #[Value.int .u64 1, Value.int .u64 10, Value.int .u64 100, Value.int .u64 1000, Value.int .u64 10000, Value.int .u64 100000, Value.int .u64 1000000, Value.int .u64 10000000, Value.int .u64 100000000, Value.int .u64 1000000000, Value.int .u64 10000000000, Value.int .u64 100000000000, Value.int .u64 1000000000000, Value.int .u64 10000000000000, Value.int .u64 100000000000000, Value.int .u64 1000000000000000, Value.int .u64 10000000000000000, Value.int .u64 100000000000000000, Value.int .u64 1000000000000000000, Value.int .u64 10000000000000000000]
  let h4 := put h3 3 #[Value.int .u8 128, Value.int .u8 191, Value.int .u8 160, Value.int .u8 191, Value.int .u8 128, Value.int .u8 159, Value.int .u8 144, Value.int .u8 191, Value.int .u8 128, Value.int .u8 143, Value.int .u8 0, Value.int .u8 0, Value.int .u8 0, Value.int .u8 0, Value.int .u8 0, Value.int .u8 0, Value.int .u8 0, Value.int .u8 0, Value.int .u8 0, Value.int .u8 0, Value.int .u8 0, Value.int .u8 0, Value.int .u8 0, Value.int .u8 0, Value.int .u8 0, Value.int .u8 0, Value.int .u8 0, Value.int .u8 0, Value.int .u8 0, Value.int .u8 0, Value.int .u8 0, Value.int .u8 0]
  let h5 := put h4 2 (Go.Pinned.utf8FirstZ.map fun (z : Nat) => Value.int .u8 (z : Int)).toArray
  { w0 with heap := h5 }
theorem laid_tab {W : World} (h : laidMetH Tryz.prog Rows.flightGrantsRow.laid W) : Lib.TabIs Tryz.prog W "internal/strconv.uint64pow10" .u64 Lib.pow10Tab := by
  have h1 := (laidMetH_iff.1 h).1.filter (fun x => x.1 == "internal/strconv.uint64pow10")
  have e : ((Rows.flightGrantsRow.laid.filter fun x => x.2.handleName?.isNone).filter fun x => x.1 == "internal/strconv.uint64pow10") = [("internal/strconv.uint64pow10", Lib.tabData .u64 Lib.pow10Tab)] := by kernel_rfl
  rw [e] at h1
  exact Lib.tabIs_of_head (g := 1) (by kernel_rfl) (by kernel_rfl) Tryz.underlying200 Tryz.underlying24 (by kernel_rfl) (by kernel_rfl) h1
theorem laid_met (os : Os) : laidMet Tryz.prog Rows.flightGrantsRow.laid ((laidWorld os).forCall (fun _ _ => 0) ⟨#[], #[.agg #[.string ByteArray.empty, .string ByteArray.empty, .string ByteArray.empty, .int .i64 0, .bool false, .slice none 0 0, .int .i64 0, .int .u64 0, .int .i64 0, .int .i64 0], .int .i64 0, .slice none 0 0, .int .u64 0, .int .u64 0], []⟩).memory :=
  laidMet_of_run' 8 (by kernel_rfl) (by kernel_rfl)
theorem witness_row (os : Os) {H : Type} (enc : TypeId × Value → H) :
    (OpenSpec.ofChange Rows.flightGrantsSpec).preRow enc Tryz.prog Tryz.f11 Rows.flightGrantsRow.domain false Rows.flightGrantsRow.laid ((laidWorld os).forCall (fun _ _ => 0) ⟨#[], #[.agg #[.string ByteArray.empty, .string ByteArray.empty, .string ByteArray.empty, .int .i64 0, .bool false, .slice none 0 0, .int .i64 0, .int .u64 0, .int .i64 0, .int .i64 0], .int .i64 0, .slice none 0 0, .int .u64 0, .int .u64 0], []⟩).memory #[.agg #[.string ByteArray.empty, .string ByteArray.empty, .string ByteArray.empty, .int .i64 0, .bool false, .slice none 0 0, .int .i64 0, .int .u64 0, .int .i64 0, .int .i64 0], .int .i64 0, .slice none 0 0, .int .u64 0, .int .u64 0] := by
  have hw : (DataW.whole enc Tryz.prog ((laidWorld os).forCall (fun _ _ => 0) ⟨#[], #[.agg #[.string ByteArray.empty, .string ByteArray.empty, .string ByteArray.empty, .int .i64 0, .bool false, .slice none 0 0, .int .i64 0, .int .u64 0, .int .i64 0, .int .i64 0], .int .i64 0, .slice none 0 0, .int .u64 0, .int .u64 0], []⟩).memory Tryz.f11.params.toList Rows.flightGrantsSpec.vars false (#[.agg #[.string ByteArray.empty, .string ByteArray.empty, .string ByteArray.empty, .int .i64 0, .bool false, .slice none 0 0, .int .i64 0, .int .u64 0, .int .i64 0, .int .i64 0], .int .i64 0, .slice none 0 0, .int .u64 0, .int .u64 0] : Array Value).toList 8).map (fun x => (x.1, x.2.1)) =
      some ([.agg [.lit (.string []), .lit (.string []), .lit (.string []), .lit (.int .i64 0), .lit (.bool false), .nil, .lit (.int .i64 0), .lit (.int .u64 0), .lit (.int .i64 0), .lit (.int .i64 0)], .lit (.int .i64 0), .nil, .lit (.int .u64 0), .lit (.int .u64 0)], []) := by kernel_rfl
  obtain ⟨⟨x1, x2, x3⟩, hx, hx1⟩ := Option.map_eq_some_iff.1 hw
  simp only [Prod.mk.injEq] at hx1
  obtain ⟨rfl, rfl⟩ := hx1
  exact OpenSpec.preRow_of_cond 8 hx (by kernel_rfl) (fun k hk => by cases hk) (by kernel_rfl) (laid_met os)
set_option maxRecDepth 100000 in
theorem lifted (os : Os) (started : os.Started) (H : Type) (enc : TypeId × Value → H) (F : Stop.Interp) :
    ReturnsInHanded {} Tryz.checked os 11 .any ((OpenSpec.ofChange Rows.flightGrantsSpec).preRow enc Tryz.prog Tryz.f11 Rows.flightGrantsRow.domain false Rows.flightGrantsRow.laid) (((OpenSpec.ofChange Rows.flightGrantsSpec).at F).post enc Tryz.prog Tryz.f11 false true false false) := by
  refine returnsInHanded_of_row (C := Tryz.checked) (s := (OpenSpec.ofChange Rows.flightGrantsSpec)) own started (by kernel_rfl) Tryz.func11
    (witness_row_atRef (enc := enc) (C := Tryz.checked) false (laidWorld os) #[.agg #[.string ByteArray.empty, .string ByteArray.empty, .string ByteArray.empty, .int .i64 0, .bool false, .slice none 0 0, .int .i64 0, .int .u64 0, .int .i64 0, .int .i64 0], .int .i64 0, .slice none 0 0, .int .u64 0, .int .u64 0] rfl (by kernel_rfl) (by kernel_rfl) (by kernel_rfl) (witness_row os enc)) ?_
  intro W base args ds gs before hval0 hW hcnd hk0 hsz0 hL hsh0 _
  have hsz : (DataW.weightsEach Tryz.prog (Tryz.f11.params.toList ++ Rows.flightGrantsSpec.plain.varTypes Tryz.prog) (ds ++ gs)).all (· ≤ reachBytes) = true := hsz0
  have hval : ∀ (j : Nat) t v, Tryz.f11.params[j]? = some t → args[j]? = some v → Value.okWide Tryz.prog W .any base t v := hval0
  have hW' := hW
  obtain ⟨p, q, hA0, hV, rfl, hfz, hnd⟩ := hW
  have hA : DataW.TrodAll enc Tryz.prog W 0 (fun _ => true) true Tryz.f11.params.toList args.toList ds p := hA0
  rw [Tryz.params11] at hA hval hsz
  obtain ⟨v0, vs0, d0, ds0, p0, q0, hargs, rfl, rfl, h0, r0⟩ := trodAll_cons hA
  obtain ⟨v1, vs1, d1, ds1, p1, q1, rfl, rfl, rfl, h1, r1⟩ := trodAll_cons r0
  obtain ⟨v2, vs2, d2, ds2, p2, q2, rfl, rfl, rfl, h2, r2⟩ := trodAll_cons r1
  obtain ⟨v3, vs3, d3, ds3, p3, q3, rfl, rfl, rfl, h3, r3⟩ := trodAll_cons r2
  obtain ⟨v4, vs4, d4, ds4, p4, q4, rfl, rfl, rfl, h4, r4⟩ := trodAll_cons r3
  obtain ⟨rfl, rfl, rfl⟩ := trodAll_nil r4
  obtain rfl : args = #[v0, v1, v2, v3, v4] := by cases args; simp_all
  obtain ⟨rfl, rfl⟩ := trodVars_none hV
  have k0 := h0
  have lt0 : ∀ x ∈ p0, x.block < W.heap.size := by obtain ⟨m, hm⟩ := k0; exact DataW.trod_lt m _ _ _ hm
  obtain ⟨cs0, rfl, hz0⟩ := okWide_struct Tryz.underlying26 (hval 0 26 v0 rfl rfl)
  obtain ⟨x0, hk0, b0⟩ := opn_trod opnT26 h0
  obtain ⟨_, _, e0_, rfl, _, _, rfl, rfl, _, _, rfl, rfl, _, _, rfl, rfl, _, _, rfl, rfl, _, _, rfl, ⟨A0_5, c0_5, rfl, hc0_5, hr0_5⟩, _, _, rfl, rfl, _, _, rfl, rfl, _, _, rfl, rfl, rfl⟩ := hk0
  obtain rfl : cs0 = #[.string x0.f0, .string x0.f1, .string x0.f2, .int .i64 x0.f3, .bool x0.f4, .slice A0_5 x0.f5.length c0_5, .int .i64 x0.f6, .int .u64 x0.f7, .int .i64 x0.f8, .int .i64 x0.f9] := by cases cs0; simpa [Value.cells] using e0_
  obtain ⟨a1, rfl, rfl, rfl, b1⟩ := open_int Tryz.underlying3 (hval 1 3 v1 rfl rfl) h1
  have k2 := h2
  have lt2 : ∀ x ∈ p2, x.block < W.heap.size := by obtain ⟨m, hm⟩ := k2; exact DataW.trod_lt m _ _ _ hm
  obtain ⟨A2, n2, c2, rfl⟩ := okWide_slice Tryz.underlying23 (hval 2 23 v2 rfl rfl)
  obtain ⟨l2, rfl, hr2, hc2, b2⟩ := opn_slice_arg (opn_slice 28 Tryz.underlying23 (by kernel_rfl) opnT28) h2
  obtain ⟨a3, rfl, rfl, rfl, b3⟩ := open_int Tryz.underlying24 (hval 3 24 v3 rfl rfl) h3
  obtain ⟨a4, rfl, rfl, rfl, b4⟩ := open_int Tryz.underlying24 (hval 4 24 v4 rfl rfl) h4
  clear hA0 hval0 hsz0 hsz
  obtain ⟨kk, hp⟩ := Pure.FlightGrants x0 a1 l2 a3 a4 b0 b1 b2 b3 b4
  have hM_ : Aside0 (Pr.LaidW W) := ⟨Go.Proofs.cell_of_shapedOpen_int (zero := #[.int .i64 0]) (t := 3) hsh0 (of_decide_eq_true (by kernel_rfl)) (by kernel_rfl) rfl (by kernel_rfl) (by kernel_rfl) Tryz.underlying3, laid_tab hL⟩
  refine (lockkeeperlaw17_FlightGrants.calls (k := kk) (a0_0 := x0.f0) (a0_1 := x0.f1) (a0_2 := x0.f2) (a0_3 := x0.f3) (a0_4 := x0.f4) (A0_5 := A0_5) (c0_5 := c0_5) (l0_5 := x0.f5) (a0_6 := x0.f6) (a0_7 := x0.f7) (a0_8 := x0.f8) (a0_9 := x0.f9) (a1 := a1) (A2 := A2) (c2 := c2) (l2 := l2) (a3 := a3) (a4 := a4) (r := true) (w := W) (hr0_5 := hr0_5) (hc0_5 := hc0_5) (hr2 := hr2) (hc2 := hc2) (hM_ := hM_) (hr_ := rfl) (h := hp)).mono fun e W' ⟨he, hbel⟩ => ?_
  have bel : Below W.heap.size W W' := hbel
  subst he
  exact ⟨_, rfl, _, _, _, [], _, [], hW', trodAll_mk1 (shut_bool Tryz.underlying4 _), (trodAll_cons_mk (Below.trod laidOut (by kernel_rfl) (of_decide_eq_true (by kernel_rfl)) k0 bel lt0) (trodAll_cons_mk (shut_int Tryz.underlying3 b1) (trodAll_cons_mk (Below.trod laidOut (by kernel_rfl) (of_decide_eq_true (by kernel_rfl)) k2 bel lt2) (trodAll_cons_mk (shut_int Tryz.underlying24 b3) (trodAll_cons_mk (shut_int Tryz.underlying24 b4) trodAll_mk0))))), rfl, bel.frame _, fun h => by cases h⟩
theorem said : Rows.FlightGrantsSaid :=
  OpenClaim.holds_of_cond 11 Tryz.f11 rfl rfl rfl rfl rfl rfl rfl ⟨rfl, rfl, rfl, rfl, rfl⟩ rfl rfl rfl rfl rfl (by kernel_rfl) Tryz.func11 (by kernel_rfl)
    (of_decide_eq_true (by kernel_rfl)) (by unfold Func.isWrapper; first | (rw [if_pos (by decide +kernel)]; kernel_rfl) | (rw [if_neg (by decide +kernel)]; exact ⟨rfl, rfl⟩))
    (fun os started H enc _ F => by rw [OpenClaim.pre_eq_preRow]; exact lifted os started H enc F)
theorem plain (f : FuncId) (fn : Func) (hf : Tryz.pinned.checked.prog.funcNamed Rows.flightGrantsRow.func = some f) (hfn : Tryz.pinned.checked.prog.funcs[f]? = some fn) :
    false = Tryz.pinned.checked.prog.looks [] ∧ ∀ (j : Nat) t, fn.params[j]? = some t → Tryz.pinned.checked.prog.wantsStandIn t = false := by
  obtain rfl : f = 11 := Option.some.inj ((show Tryz.prog.funcNamed Rows.flightGrantsRow.func = some 11 by kernel_rfl).symm.trans hf) |>.symm
  obtain rfl : fn = Tryz.f11 := (Option.some.inj (Tryz.func11.symm.trans hfn)).symm
  refine ⟨by kernel_rfl, fun j t ht => ?_⟩
  rw [Tryz.params11] at ht
  have hm := Array.mem_of_getElem? ht
  simp only [List.mem_toArray, List.mem_cons, List.not_mem_nil, or_false] at hm
  rcases hm with rfl | rfl | rfl | rfl | rfl
  · exact (show Tryz.prog.wantsStandIn 26 = false by kernel_rfl)
  · exact (show Tryz.prog.wantsStandIn 3 = false by kernel_rfl)
  · exact (show Tryz.prog.wantsStandIn 23 = false by kernel_rfl)
  · exact (show Tryz.prog.wantsStandIn 24 = false by kernel_rfl)
  · exact (show Tryz.prog.wantsStandIn 24 = false by kernel_rfl)
theorem card : Rows.FlightGrantsCardSaid :=
  Claim7.holds_tied_plain_at .later [] _ _ _ _ said (fun _ h => by cases h) (by kernel_rfl) (fun _ h => by cases h) flightGrants_row_tie rfl ⟨rfl, rfl⟩ (by kernel_rfl) rfl plain (by kernel_rfl)
end Go.Proofs.YtfmajangcbgooaaGreatDoor.flightGrants
namespace Go.Proofs.YtfmajangcbgooaaGreatDoor
/-- The card, under a short name, for the claim. -/
theorem flightGrants_holds : Rows.FlightGrantsCardSaid := flightGrants.card
end Go.Proofs.YtfmajangcbgooaaGreatDoor
