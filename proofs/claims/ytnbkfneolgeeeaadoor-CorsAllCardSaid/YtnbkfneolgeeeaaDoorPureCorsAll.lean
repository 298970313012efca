
/- The printed law CorsAll tells true for every origin, bool and row of headers (of the form's own reach). -/
import Derived.Test.YtnbkfneolgeeeaaDoorBCorsAll
import Derived.Test.YtnbkfneolgeeeaaDoorR1
import Derived.Test.YtnbkfneolgeeeaaDoorPr13
import Derived.Test.YtnbkfneolgeeeaaDoorPr10
import Derived.Test.YtnbkfneolgeeeaaDoorPr12
namespace Go.Proofs.YtnbkfneolgeeeaaDoor.Pure
open Go.RowKit Go.Proofs.YtnbkfneolgeeeaaDoor.Pr Go.Proofs.YtnbkfneolgeeeaaDoorW.PrintWords Go.Proofs.YtnbkfneolgeeeaaDoorW.PrintLast
set_option linter.unusedVariables false
set_option linter.unusedSimpArgs false

theorem rcheck_ev (origin : ByteArray) (creds : Bool) (l : List Hd) (hl : HOk l) : Ev (fun k => lockkeeperref15_Check.f k origin creds l) (corsS origin creds l) := by
  unfold lockkeeperref15_Check.f corsS
  refine Ev.bind (rget_ev l sFrom hl (by decide)) ?_
  generalize getS l sFrom = g
  obtain ⟨v, ok⟩ := g
  dsimp only
  have j : ∀ c : Bool, Ev (fun k => lockkeeperref15_Check.j0 k origin creds l v c) (if c = true then 0 else if v ≠ origin then 15 else if creds = true ∧ (getS l sTrusts).1.data.toList ≠ ([116, 114, 117, 101] : List UInt8) then 15 else 0) := by
    intro c
    refine evSucc ?_
    simp only [lockkeeperref15_Check.j0]
    cases c with
    | true => exact evPos rfl (evEq (Ev.now _) (by simp))
    | false =>
      refine evNeg (by decide) ?_
      by_cases hv : v = origin
      · refine evPos (by rw [hv]) ?_
        cases creds with
        | true =>
          refine evPos rfl (Ev.bind (rget_ev l sTrusts hl (by decide)) ?_)
          by_cases ht : (getS l sTrusts).1.data.toList = ([116, 114, 117, 101] : List UInt8)
          · exact evPos (by rw [tl]; exact ht) (evEq (Ev.now _) (by simp [hv, ht]))
          · exact evNeg (by rw [tl]; exact ht) (evEq (Ev.now _) (by simp [hv, ht]))
        | false => exact evNeg (by decide) (evEq (Ev.now _) (by simp [hv]))
      · exact evNeg (fun e => hv (by rw [tl, tl] at e; exact ba_ext e)) (evEq (Ev.now _) (by simp [hv]))
  cases ok with
  | false => exact evNeg (by decide) (evEq (Ev.now _) (by simp))
  | true =>
    rw [if_pos rfl]
    refine evPos rfl ?_
    by_cases hs : v.data.toList = ([42] : List UInt8)
    · refine evPos (by rw [tl]; exact hs) (evEq (j _) ?_)
      cases creds with
      | true => simp [hs]
      | false => simp [hs]
    · refine evNeg (by rw [tl]; exact hs) (evEq (j _) ?_)
      simp [hs]
def sevens : List ByteArray := [(⟨#[99, 97, 99, 104, 101, 45, 99, 111, 110, 116, 114, 111, 108]⟩ : ByteArray), (⟨#[99, 111, 110, 116, 101, 110, 116, 45, 108, 97, 110, 103, 117, 97, 103, 101]⟩ : ByteArray), (⟨#[99, 111, 110, 116, 101, 110, 116, 45, 108, 101, 110, 103, 116, 104]⟩ : ByteArray), (⟨#[99, 111, 110, 116, 101, 110, 116, 45, 116, 121, 112, 101]⟩ : ByteArray), (⟨#[101, 120, 112, 105, 114, 101, 115]⟩ : ByteArray), (⟨#[108, 97, 115, 116, 45, 109, 111, 100, 105, 102, 105, 101, 100]⟩ : ByteArray), (⟨#[112, 114, 97, 103, 109, 97]⟩ : ByteArray)]
def hitB (creds : Bool) (n q : ByteArray) : Bool := foldB q n || (q.toList == ([42] : List UInt8) && !creds)
def rB (Q : List ByteArray) (creds : Bool) (h : Hd) : Bool := (Q.any (hitB creds h.f0)) && !isCookie h.f0
theorem rseen_l1 (creds : Bool) (Q : List ByteArray) (N out : List Hd) (j : Nat) (hj : j < N.length) (hN : N.length ≤ 1000000) (hz : (N[j]).f0.size ≤ 9223372036854775807) (hQ : Q.length ≤ 1000000000000) (hQs : ∀ q ∈ Q, q.size ≤ 9223372036854775807) (hout : out.length < 4398046511104) (R : List Hd) (b : Bool)
    (h : Ev (fun k => lockkeeperref15_Seen.l0 k creds Q N (if b = true then out ++ [N[j]] else out) ((j + 1 : Nat) : Int)) R) :
    ∀ (n i : Nat) (ok : Bool), i + n = Q.length → ((ok || (Q.drop i).any (hitB creds N[j].f0)) && !isCookie N[j].f0) = b → Ev (fun k => lockkeeperref15_Seen.l1 k creds Q N out (j : Int) ok (i : Int)) R := by
  have e3 : wrap64 ((j : Int) + 1) = ((j + 1 : Nat) : Int) := by unfold wrap64; omega
  intro n
  induction n with
  | zero =>
    intro i ok hi hb
    rw [List.drop_of_length_le (by omega), List.any_nil, Bool.or_false] at hb
    refine evSucc ?_
    simp only [lockkeeperref15_Seen.l1, e3]
    rw [rdT_get _ _ hj]
    generalize N[j] = hh at h hb ⊢
    refine evNeg (by omega) ?_
    cases ok with
    | false =>
      rw [Bool.false_and] at hb
      subst hb
      exact evNeg (by decide) (by simpa using h)
    | true =>
      rw [Bool.true_and] at hb
      refine evPos rfl (evPos (by omega) (evPos (by omega) ?_))
      by_cases c : hh.f0.toList = ([115, 101, 116, 45, 99, 111, 111, 107, 105, 101] : List UInt8)
      · have e : (hh.f0.toList == ([115, 101, 116, 45, 99, 111, 111, 107, 105, 101] : List UInt8)) = true := beq_iff_eq.mpr c
        rw [isCookie, e, Bool.true_or, Bool.not_true] at hb
        subst hb
        exact evPos c (by simpa using h)
      · have e : (hh.f0.toList == ([115, 101, 116, 45, 99, 111, 111, 107, 105, 101] : List UInt8)) = false := beq_eq_false_iff_ne.mpr c
        rw [isCookie, e, Bool.false_or] at hb
        refine evNeg c ?_
        by_cases c2 : hh.f0.toList = ([115, 101, 116, 45, 99, 111, 111, 107, 105, 101, 50] : List UInt8)
        · have e : (hh.f0.toList == ([115, 101, 116, 45, 99, 111, 111, 107, 105, 101, 50] : List UInt8)) = true := beq_iff_eq.mpr c2
          rw [e, Bool.not_true] at hb
          subst hb
          exact evPos c2 (by simpa using h)
        · have e : (hh.f0.toList == ([115, 101, 116, 45, 99, 111, 111, 107, 105, 101, 50] : List UInt8)) = false := beq_eq_false_iff_ne.mpr c2
          rw [e, Bool.not_false] at hb
          subst hb
          exact evNeg c2 (evPos hout (by simpa using h))
  | succ n ih =>
    intro i ok hi hb
    have hlt : i < Q.length := by omega
    have e2 : wrap64 ((i : Int) + 1) = ((i + 1 : Nat) : Int) := by unfold wrap64; omega
    have hq := hQs _ (List.getElem_mem hlt)
    rw [List.drop_eq_getElem_cons hlt, List.any_cons] at hb
    refine evSucc ?_
    simp only [lockkeeperref15_Seen.l1, e2]
    rw [rdT_get _ _ hj, rdOf_get _ _ hlt]
    refine evPos (by omega) ?_
    cases ok with
    | true => exact evPos rfl (ih (i + 1) true (by omega) (by rw [← hb, Bool.true_or, Bool.true_or]))
    | false =>
      rw [Bool.false_or] at hb
      refine evNeg (by decide) (evPos (by omega) (evPos (by omega) (evPos (by omega) (evBind (rfold_f _ _ hq hz) ?_))))
      unfold hitB at hb
      cases hf : foldB Q[i] N[j].f0 with
      | true =>
        rw [hf, Bool.true_or, Bool.true_or] at hb
        exact evPos rfl (ih (i + 1) true (by omega) (by rw [Bool.true_or]; exact hb))
      | false =>
        rw [hf, Bool.false_or] at hb
        refine evNeg (by decide) ?_
        by_cases c : (Q[i]).toList = ([42] : List UInt8)
        · have e : ((Q[i]).toList == ([42] : List UInt8)) = true := beq_iff_eq.mpr c
          rw [e, Bool.true_and] at hb
          exact evPos c (ih (i + 1) (!creds) (by omega) hb)
        · have e : ((Q[i]).toList == ([42] : List UInt8)) = false := beq_eq_false_iff_ne.mpr c
          rw [e, Bool.false_and] at hb
          exact evNeg c (ih (i + 1) false (by omega) hb)
theorem rseen_l0 (creds : Bool) (Q : List ByteArray) (N : List Hd) (hN : N.length ≤ 1000000) (hNs : ∀ h ∈ N, h.f0.size ≤ 9223372036854775807) (hQ : Q.length ≤ 1000000000000) (hQs : ∀ q ∈ Q, q.size ≤ 9223372036854775807) : ∀ n j : Nat, j + n = N.length →
    Ev (fun k => lockkeeperref15_Seen.l0 k creds Q N ((N.take j).filter (rB Q creds)) (j : Int)) (N.filter (rB Q creds)) := by
  intro n
  induction n with
  | zero =>
    intro j hj
    rw [List.take_of_length_le (by omega)]
    refine evSucc ?_
    simp only [lockkeeperref15_Seen.l0]
    exact evNeg (by omega) (Ev.now _)
  | succ n ih =>
    intro j hj
    have hlt : j < N.length := by omega
    have IH := ih (j + 1) (by omega)
    rw [filter_step _ _ _ hlt] at IH
    have hlen := filter_len (rB Q creds) N j
    refine evSucc ?_
    simp only [lockkeeperref15_Seen.l0]
    exact evPos (by omega) (rseen_l1 creds Q N _ j hlt hN (hNs _ (List.getElem_mem hlt)) hQ hQs (by omega) _ (rB Q creds N[j]) IH Q.length 0 false (by omega) (by rw [List.drop_zero, Bool.false_or]; rfl))
theorem seven_fold (n : ByteArray) (hn : lowB n = n) : sevens.any (fun q => foldB q n) = isSeven n := by
  have hl : lowL n.data.toList = n.data.toList := by
    have := congrArg (fun x : ByteArray => x.data.toList) hn
    unfold lowB at this
    simpa [bsOf_data] using this
  unfold sevens isSeven foldB
  rw [hl, tl]
  generalize n.data.toList = x
  simp only [List.any_cons, List.any_nil, Bool.or_false]
  have sw : ∀ a : Bs, (a == x) = (x == a) := fun a => by rw [Bool.eq_iff_iff, beq_iff_eq, beq_iff_eq]; exact eq_comm
  simp only [sw]
  rfl
theorem seven_cookie (n : ByteArray) (h : isSeven n = true) : isCookie n = false := by
  unfold isSeven at h
  unfold isCookie
  simp only [Bool.or_eq_true, beq_iff_eq] at h
  rcases h with h | h | h | h | h | h | h <;> rw [h] <;> decide
theorem star_any (T : List ByteArray) : (T.any fun q => q.toList == ([42] : List UInt8)) = Lib.containsS T sStar1 := by
  rw [Bool.eq_iff_iff, Lib.containsS_iff, List.any_eq_true]
  constructor
  · rintro ⟨q, hq, h⟩
    have : q = sStar1 := ba_ext (by rw [← tl, beq_iff_eq.mp h]; rfl)
    exact this ▸ hq
  · intro h
    exact ⟨sStar1, h, by rw [tl]; rfl⟩
theorem same_seen (creds : Bool) (T : List ByteArray) (h : Hd) (hn : lowB h.f0 = h.f0) : rB (T ++ sevens) creds h = seenB T (!creds && Lib.containsS T sStar1) h := by
  have h1 : (T ++ sevens).any (hitB creds h.f0) = ((T.any fun t => foldB t h.f0) || (Lib.containsS T sStar1 && !creds) || isSeven h.f0) := by
    rw [List.any_append]
    have a : ∀ L : List ByteArray, L.any (hitB creds h.f0) = ((L.any fun t => foldB t h.f0) || ((L.any fun q => q.toList == ([42] : List UInt8)) && !creds)) := by
      intro L
      induction L with
      | nil => simp
      | cons x r ih =>
        rw [List.any_cons, List.any_cons, List.any_cons, ih]
        unfold hitB
        cases foldB x h.f0 <;> cases (x.toList == ([42] : List UInt8)) <;> cases creds <;> simp
    rw [a, a, star_any, seven_fold _ hn, show (sevens.any fun q => q.toList == ([42] : List UInt8)) = false from by simp only [tl]; decide]
    simp
  unfold rB seenB
  rw [h1]
  cases h7 : isSeven h.f0 with
  | true => rw [seven_cookie _ h7]; simp
  | false =>
    cases isCookie h.f0 <;> cases (T.any fun t => foldB t h.f0) <;> cases Lib.containsS T sStar1 <;> cases creds <;> rfl
theorem rseen_ev (creds : Bool) (l : List Hd) (hl : HOk l) (hg : (getS l sExpose).1.size ≤ 100000000) : Ev (fun k => lockkeeperref15_Seen.f k creds l) (seenS creds l) := by
  have z1 := splitS_length (getS l sExpose).1
  have z2 := splitS_size (getS l sExpose).1
  have hn := normS_ok hl
  unfold lockkeeperref15_Seen.f
  refine Ev.bind (rget_ev l sExpose hl (by decide)) (Ev.bind (rsplit_ev _ (by omega)) (evBind rfl (evPos (by simp; omega) (Ev.bind (rnorm_ev l hl) ?_))))
  have hs : ∀ q ∈ splitS (getS l sExpose).1 ++ sevens, q.size ≤ 9223372036854775807 := by
    intro q hq
    rcases List.mem_append.1 hq with hq | hq
    · have := z2 q hq; omega
    · have : ∀ q ∈ sevens, q.size ≤ 100 := by decide
      have := this q hq
      omega
  have h0 := rseen_l0 creds (splitS (getS l sExpose).1 ++ sevens) (normS l) (by have := hn.1; omega) (fun h hh => by have := hn.2 h hh; omega) (by rw [List.length_append]; show _ + 7 ≤ _; omega) hs _ 0 (Nat.zero_add _)
  rw [List.take_zero, List.filter_nil] at h0
  refine evEq h0 ?_
  unfold seenS allS toldS
  refine List.filter_congr fun h hh => same_seen creds _ h ?_
  obtain ⟨y, _, rfl⟩ := List.mem_map.1 hh
  exact lowB_idem y.f0
theorem heads_l0 (X : List Hd) (hX : X.length ≤ 1000000) : ∀ n i : Nat, i + n = X.length → Ev (fun k => lockkeeperlaw0_Headers.l0 k X X (i : Int)) true := by
  intro n
  induction n with
  | zero =>
    intro i hi
    refine evSucc ?_
    simp only [lockkeeperlaw0_Headers.l0]
    exact evNeg (by omega) (Ev.now _)
  | succ n ih =>
    intro i hi
    have hlt : i < X.length := by omega
    have e2 : wrap64 ((i : Int) + 1) = ((i + 1 : Nat) : Int) := by unfold wrap64; omega
    refine evSucc ?_
    simp only [lockkeeperlaw0_Headers.l0, e2]
    rw [rdT_get _ _ hlt]
    exact evPos (by omega) (evPos (by omega) (evPos (by omega) (evNeg (fun h => (hd_ne _ _).1 h rfl) (ih (i + 1) (by omega)))))
theorem heads_ev (X : List Hd) (hX : X.length ≤ 1000000) : Ev (fun k => lockkeeperlaw0_Headers.f k X X) true := by
  unfold lockkeeperlaw0_Headers.f
  exact evPos rfl (heads_l0 X hX X.length 0 (Nat.zero_add _))
theorem cors_all (o : ByteArray) (creds : Bool) (l : List Hd) : ∃ k, lockkeeperlaw15_CorsAll.f k o creds l = some true := by
  refine Ev.rounds (g := fun k => lockkeeperlaw15_CorsAll.f k o creds l) ?_
  have jt : Ev (fun k => lockkeeperlaw15_CorsAll.j0 k o creds l true) true := by
    refine evSucc ?_
    simp only [lockkeeperlaw15_CorsAll.j0, if_true]
    exact Ev.bind awake15_ev (Ev.now _)
  unfold lockkeeperlaw15_CorsAll.f
  refine Ev.bind (long_ev 700 [o] (by omega) (by omega) (by simp)) ?_
  cases longS 700 [o] with
  | true => exact evPos rfl jt
  | false =>
    refine evNeg (by decide) ?_
    obtain ⟨b, hb, hB⟩ := great_ev l
    refine Ev.bind hb ?_
    cases b with
    | true => exact jt
    | false =>
      have hl := hB rfl
      have hT : HT l := ⟨by have := hl.1; omega, fun h hh => by have := hl.2 h hh; omega⟩
      have hg := hT.get sExpose
      refine evSucc ?_
      simp only [lockkeeperlaw15_CorsAll.j0, Bool.false_eq_true, if_false]
      refine Ev.bind (cors_ev o creds l hl.ok) (Ev.bind (rcheck_ev o creds l hl.ok) (evPos rfl (Ev.bind (seen_ev creds l hl.ok hg) (Ev.bind (rseen_ev creds l hl.ok hg) (Ev.bind (heads_ev _ ?_) (evPos rfl (Ev.bind awake15_ev (Ev.now _))))))))
      have h1 := List.length_filter_le (seenB (toldS l) (allS creds l)) (normS l)
      have h2 := (normS_ok hl.ok).1
      unfold seenS
      omega
theorem CorsAll : ∀ (a0 : ByteArray) (a1 : Bool) (l2 : List (S35)), a0.size ≤ 140737488351232 → (l2.length ≤ maxLen ∧ ∀ x_ ∈ l2, bT35 x_) → ∃ k, lockkeeperlaw15_CorsAll.f k a0 a1 l2 = some true := fun o creds l _ _ => cors_all o creds l
end Go.Proofs.YtnbkfneolgeeeaaDoor.Pure
