
/- The printed law AllowAll tells true for every row of headers, every allowance, text and bool (of the form's own reach). -/
import Derived.Test.YtnbkfneolgeeeaaDoorBAllowAll
import Derived.Test.YtnbkfneolgeeeaaDoorG11
import Derived.Test.YtnbkfneolgeeeaaDoorR1
import Derived.Test.YtnbkfneolgeeeaaDoorPr10
import Derived.Test.YtnbkfneolgeeeaaDoorPr8
import Derived.Test.YtnbkfneolgeeeaaDoorPr9
namespace Go.Proofs.YtnbkfneolgeeeaaDoor.Pure
open Go.RowKit Go.Proofs.YtnbkfneolgeeeaaDoor.Pr Go.Proofs.YtnbkfneolgeeeaaDoorW.PrintWords Go.Proofs.YtnbkfneolgeeeaaDoorW.PrintLast
set_option linter.unusedVariables false
set_option linter.unusedSimpArgs false

theorem cont_cons (x : ByteArray) (r : List ByteArray) (s : ByteArray) : Lib.containsS (x :: r) s = (decide (x = s) || Lib.containsS r s) := by
  rw [Bool.eq_iff_iff, Bool.or_eq_true, Lib.containsS_iff, Lib.containsS_iff, decide_eq_true_eq, List.mem_cons]
  exact ⟨fun h => h.imp (fun e => e.symm) id, fun h => h.imp (fun e => e.symm) id⟩
theorem among_ev (s : ByteArray) (l : List ByteArray) (hl : l.length ≤ 9223372036854775807) : Ev (fun k => lockkeeperref14_among.f k s l) (Lib.containsS l s) := by
  have key : ∀ n i : Nat, i + n = l.length → Ev (fun k => lockkeeperref14_among.l0 k s l (i : Int)) (Lib.containsS (l.drop i) s) := by
    intro n
    induction n with
    | zero =>
      intro i hi
      rw [List.drop_of_length_le (by omega)]
      refine evSucc ?_
      simp only [lockkeeperref14_among.l0]
      refine evNeg (by omega) (evEq (Ev.now _) ?_)
      cases h : Lib.containsS [] s with
      | false => rfl
      | true => exact absurd ((Lib.containsS_iff _ _).1 h) (by simp)
    | succ n ih =>
      intro i hi
      have hlt : i < l.length := by omega
      have e2 : wrap64 ((i : Int) + 1) = ((i + 1 : Nat) : Int) := by unfold wrap64; omega
      rw [List.drop_eq_getElem_cons hlt, cont_cons]
      refine evSucc ?_
      simp only [lockkeeperref14_among.l0, e2]
      rw [rdOf_get _ _ hlt, tl, tl]
      refine evPos (by omega) (evPos (by omega) ?_)
      by_cases h : l[i] = s
      · rw [decide_eq_true h, Bool.true_or]
        exact evPos (by rw [h]) (Ev.now _)
      · rw [decide_eq_false h, Bool.false_or]
        exact evNeg (fun e => h (ba_ext e)) (ih (i + 1) (by omega))
  exact key l.length 0 (Nat.zero_add _)
theorem norm_go (s : ByteArray) (hs : s.size ≤ 9223372036854775807) (l : List ByteArray) (hl : ∀ m ∈ l, m.size ≤ 7 ∧ m ≠ ⟨#[]⟩) : normGo s l = some (if knownGo s l = ⟨#[]⟩ then s else knownGo s l) := by
  induction l with
  | nil => rfl
  | cons m r ih =>
    have h := hl m (by simp)
    rw [normGo, knownGo, rfold_f s m hs (by omega)]
    simp only [Option.bind_some]
    cases hf : foldB s m with
    | true => rw [if_pos rfl, if_pos rfl, if_neg h.2]
    | false => simp only [Bool.false_eq_true, if_false]; exact ih fun x hx => hl x (by simp [hx])
theorem known_none (s : ByteArray) (l : List ByteArray) (h : knownGo s l = ⟨#[]⟩) (hl : ∀ m ∈ l, m ≠ ⟨#[]⟩) : s ∉ l := by
  induction l with
  | nil => simp
  | cons m r ih =>
    rw [knownGo] at h
    intro hs
    rcases List.mem_cons.1 hs with rfl | hs
    · rw [if_pos (by unfold foldB; simp)] at h
      exact hl s (by simp) h
    · split at h
      · exact hl m (by simp) h
      · exact ih h (fun x hx => hl x (by simp [hx])) hs
theorem rsafe_f (s : ByteArray) (hs : s.size ≤ 9223372036854775807) : lockkeeperref5_Safe.f s = some (safeM s) := by
  have hk : ∀ m ∈ knowns, m.size ≤ 7 ∧ m ≠ ⟨#[]⟩ := by decide
  unfold lockkeeperref5_Safe.f lockkeeperref5_Norm.f
  rw [show r5Names = knowns from rfl, norm_go s hs knowns hk]
  simp only [Option.bind_some]
  unfold safeM
  by_cases h : knownGo s knowns = ⟨#[]⟩
  · have hn := known_none s knowns h fun m hm => (hk m hm).2
    rw [if_pos h, h, tl, tl]
    have hg : s.data.toList ≠ ([71, 69, 84] : List UInt8) := fun e => hn (by rw [show s = (⟨#[71, 69, 84]⟩ : ByteArray) from ba_ext e]; simp [knowns])
    have hh : s.data.toList ≠ ([72, 69, 65, 68] : List UInt8) := fun e => hn (by rw [show s = (⟨#[72, 69, 65, 68]⟩ : ByteArray) from ba_ext e]; simp [knowns])
    have hp : s.data.toList ≠ ([80, 79, 83, 84] : List UInt8) := fun e => hn (by rw [show s = (⟨#[80, 79, 83, 84]⟩ : ByteArray) from ba_ext e]; simp [knowns])
    rw [if_neg hg, if_neg hh, show (s.data.toList == ([80, 79, 83, 84] : List UInt8)) = false by simpa using hp]
    rfl
  · rw [if_neg h]
    by_cases h1 : (knownGo s knowns).toList = ([71, 69, 84] : List UInt8)
    · rw [if_pos h1, if_pos h1]
    · rw [if_neg h1, if_neg h1]
      by_cases h2 : (knownGo s knowns).toList = ([72, 69, 65, 68] : List UInt8)
      · rw [if_pos h2, if_pos h2]
      · rw [if_neg h2, if_neg h2]
        by_cases h3 : (knownGo s knowns).toList = ([80, 79, 83, 84] : List UInt8)
        · rw [if_pos h3, h3]; rfl
        · rw [if_neg h3, show ((knownGo s knowns).toList == ([80, 79, 83, 84] : List UInt8)) = false by simpa using h3]
theorem rhas_ev (M H : List ByteArray) (age : Int) (m : ByteArray) (creds : Bool) (hM : M.length ≤ 9223372036854775807) (hm : m.size ≤ 9223372036854775807) : Ev (fun k => lockkeeperref14_Has.f k M H age m creds) (hasS M m creds) := by
  unfold lockkeeperref14_Has.f hasS
  exact evBind (rsafe_f m hm) (evIte (fun _ => Ev.now _) fun _ => Ev.bind (among_ev m M hM) (evIte (fun _ => Ev.now _) fun _ => evIte (fun _ => Ev.now _) fun _ => Ev.bind (among_ev sStar M hM) (Ev.now _)))
theorem rcov_ev (M H : List ByteArray) (age : Int) (n : ByteArray) (creds : Bool) (hH : H.length ≤ 9223372036854775807) (hn : n.size ≤ 9223372036854775807) : Ev (fun k => lockkeeperref14_Covers.f k M H age n creds) (covS H n creds) := by
  unfold lockkeeperref14_Covers.f covS
  refine evBind (rlower_f n hn) (Ev.bind (among_ev (lowB n) H hH) (evIte (fun _ => Ev.now _) fun _ => evIte (fun _ => Ev.now _) fun _ => Ev.bind (among_ev sStar H hH) ?_))
  by_cases ha : (lowB n).toList = ([97, 117, 116, 104, 111, 114, 105, 122, 97, 116, 105, 111, 110] : List UInt8)
  · rw [if_pos ha]
    cases Lib.containsS H sStar with
    | true => exact evPos rfl (evEq (Ev.now _) (by rw [ha]; rfl))
    | false => exact evNeg (by decide) (Ev.now _)
  · rw [if_neg ha]
    cases Lib.containsS H sStar with
    | true => exact evPos rfl (evEq (Ev.now _) (by simpa using ha))
    | false => exact evNeg (by decide) (Ev.now _)
theorem rread_l1 (M : List ByteArray) (g : ByteArray) (hg : g.size ≤ 100000000) (N : List ByteArray) (hN : N.length ≤ 1000000000) (hs : ∀ x ∈ N, x.size ≤ 4611686018427387904) : ∀ n i : Nat, i + n = N.length →
    Ev (fun k => lockkeeperref14_Read.l1 k g N (i : Int) M ((N.take i).map lowB) 5) (if (N.drop i).all tokS = true then (M, N.map lowB, ageS g, 0) else ([], [], 0, 6)) := by
  intro n
  induction n with
  | zero =>
    intro i hi
    have h2 := trimS_size g
    rw [List.drop_of_length_le (by omega), List.all_nil, if_pos rfl, List.take_of_length_le (by omega)]
    refine evSucc ?_
    simp only [lockkeeperref14_Read.l1]
    refine evNeg (by omega) (Ev.bind (rtrim_ev g (by omega)) (Ev.bind (rdig_ev _ (by omega)) ?_))
    unfold ageS
    by_cases h : (digS (trimS g)).2 = true
    · simp only [if_pos h]; exact Ev.now _
    · simp only [if_neg h]; exact Ev.now _
  | succ n ih =>
    intro i hi
    have hlt : i < N.length := by omega
    have e2 : wrap64 ((i : Int) + 1) = ((i + 1 : Nat) : Int) := by unfold wrap64; omega
    have hz := hs _ (List.getElem_mem hlt)
    have IH := ih (i + 1) (by omega)
    rw [List.take_add_one, List.getElem?_eq_getElem hlt, List.map_append] at IH
    rw [List.drop_eq_getElem_cons hlt, List.all_cons]
    refine evSucc ?_
    simp only [lockkeeperref14_Read.l1, e2]
    rw [rdOf_get _ _ hlt]
    refine evPos (by omega) (evPos (by omega) (Ev.bind (rtoken_ev _ (by omega)) ?_))
    cases tokS N[i] with
    | true =>
      rw [Bool.true_and]
      exact evPos rfl (evBind (rlower_f _ (by omega)) (evPos (by simp; omega) IH))
    | false =>
      rw [Bool.false_and]
      exact evNeg (by decide) (Ev.now _)
theorem rread_l0 (x6 g : ByteArray) (L : List ByteArray) (R : RT) (hL : L.length ≤ 1000000000) (hs : ∀ x ∈ L, x.size ≤ 4611686018427387904) (fin : Ev (fun k => (lockkeeperref1_Split.f k x6).bind fun t208 => (lockkeeperref14_Read.l1 k g t208 0 L ([] : List ByteArray) 5)) R) : ∀ n i : Nat, i + n = L.length →
    Ev (fun k => lockkeeperref14_Read.l0 k x6 g (i : Int) L 5) (if (L.drop i).all tokS = true then R else ([], [], 0, 5)) := by
  intro n
  induction n with
  | zero =>
    intro i hi
    rw [List.drop_of_length_le (by omega), List.all_nil, if_pos rfl]
    refine evSucc ?_
    simp only [lockkeeperref14_Read.l0]
    exact evNeg (by omega) fin
  | succ n ih =>
    intro i hi
    have hlt : i < L.length := by omega
    have e2 : wrap64 ((i : Int) + 1) = ((i + 1 : Nat) : Int) := by unfold wrap64; omega
    have hz := hs _ (List.getElem_mem hlt)
    have IH := ih (i + 1) (by omega)
    rw [List.drop_eq_getElem_cons hlt, List.all_cons]
    refine evSucc ?_
    simp only [lockkeeperref14_Read.l0, e2]
    rw [rdOf_get _ _ hlt]
    refine evPos (by omega) (evPos (by omega) (Ev.bind (rtoken_ev _ (by omega)) ?_))
    cases tokS L[i] with
    | true => rw [Bool.true_and]; exact evPos rfl IH
    | false => rw [Bool.false_and]; exact evNeg (by decide) (Ev.now _)
theorem rread14_ev (l : List Hd) (hl : HT l) : Ev (fun k => lockkeeperref14_Read.f k l) (readS l) := by
  have g1 := hl.get sMeths
  have g2 := hl.get sHeads
  have g3 := hl.get sAge
  have l1 := splitS_length (getS l sMeths).1
  have l2 := splitS_length (getS l sHeads).1
  have z1 := splitS_size (getS l sMeths).1
  have z2 := splitS_size (getS l sHeads).1
  unfold lockkeeperref14_Read.f
  refine Ev.bind (rget_ev l sMeths hl.ok (by decide)) (Ev.bind (rget_ev l sHeads hl.ok (by decide)) (Ev.bind (rget_ev l sAge hl.ok (by decide)) (Ev.bind (rsplit_ev _ (by omega)) ?_)))
  have h1 := rread_l1 (splitS (getS l sMeths).1) (getS l sAge).1 g3 (splitS (getS l sHeads).1) (by omega) (fun x hx => by have := z2 x hx; omega) _ 0 (Nat.zero_add _)
  have h0 := rread_l0 (getS l sHeads).1 (getS l sAge).1 (splitS (getS l sMeths).1) _ (by omega) (fun x hx => by have := z1 x hx; omega) (Ev.bind (rsplit_ev _ (by omega)) h1) _ 0 (Nat.zero_add _)
  refine evEq h0 ?_
  unfold readS toksS
  rw [List.drop_zero, List.drop_zero]
  by_cases a1 : (splitS (getS l sMeths).1).all tokS = true
  · rw [if_pos a1, if_pos a1, if_pos rfl]
    by_cases a2 : (splitS (getS l sHeads).1).all tokS = true
    · rw [if_pos a2, if_pos a2, if_pos rfl]
    · rw [if_neg a2, if_neg a2, if_neg (by simp)]
  · rw [if_neg a1, if_neg a1, if_neg (by simp)]
theorem allow_same (M H : List ByteArray) (age : Int) (hM : M.length ≤ 9223372036854775807) (hH : H.length ≤ 9223372036854775807) : Ev (fun k => lockkeeperlaw0_Allow.f k M H age M H age) true := by
  unfold lockkeeperlaw0_Allow.f
  exact Ev.bind (texts_refl M hM) (evPos rfl (Ev.bind (texts_refl H hH) (evPos rfl (evEq (Ev.now _) (by simp)))))
theorem readS_len (l : List Hd) (hl : HT l) : (readS l).1.length ≤ 1000000000 ∧ (readS l).2.1.length ≤ 1000000000 := by
  have g1 := hl.get sMeths
  have g2 := hl.get sHeads
  have l1 := splitS_length (getS l sMeths).1
  have l2 := splitS_length (getS l sHeads).1
  unfold readS toksS
  by_cases a1 : (splitS (getS l sMeths).1).all tokS = true
  · rw [if_pos a1, if_pos rfl]
    by_cases a2 : (splitS (getS l sHeads).1).all tokS = true
    · rw [if_pos a2, if_pos rfl]
      dsimp only
      rw [List.length_map]
      omega
    · rw [if_neg a2, if_neg (by simp)]
      simp
  · rw [if_neg a1, if_neg (by simp)]
    simp
theorem AllowAll : ∀ (l0 : List (S35)) (x1 : S42) (a2 : ByteArray) (a3 : Bool), (l0.length ≤ maxLen ∧ ∀ x_ ∈ l0, bT35 x_) → (bT42 x1) → a2.size ≤ 140737488351232 → ∃ k, lockkeeperlaw14_AllowAll.f k l0 x1.f0 x1.f1 x1.f2 a2 a3 = some true := by
  rintro l ⟨M, H, age⟩ s creds _ ⟨hM, hH, _⟩ hs
  dsimp only at hM hH ⊢
  have hm : maxLen = 9223372036854775807 := rfl
  have jt : Ev (fun k => lockkeeperlaw14_AllowAll.j0 k l s creds true M H age) true := by
    refine evSucc ?_
    simp only [lockkeeperlaw14_AllowAll.j0, if_true]
    exact Ev.bind awake14_ev (Ev.now _)
  refine Ev.rounds (g := fun k => lockkeeperlaw14_AllowAll.f k l M H age s creds) ?_
  unfold lockkeeperlaw14_AllowAll.f
  obtain ⟨b, hb, hB⟩ := great_ev l
  refine Ev.bind hb ?_
  cases b with
  | true => exact evPos rfl jt
  | false =>
    have hl := hB rfl
    have hT : HT l := ⟨by have := hl.1; omega, fun h hh => by have := hl.2 h hh; omega⟩
    refine evNeg (by decide) (Ev.bind (long_ev 2000 M (by omega) (by omega) ?_) ?_)
    · have := hM.1; omega
    · cases longS 2000 M with
      | true => exact evPos rfl jt
      | false =>
        refine evNeg (by decide) (Ev.bind (long_ev 2000 H (by omega) (by omega) ?_) ?_)
        · have := hH.1; omega
        · cases longS 2000 H with
          | true => exact evPos rfl jt
          | false =>
            refine evNeg (by decide) (Ev.bind (long_ev 200 [s] (by omega) (by omega) (by simp)) ?_)
            cases longS 200 [s] with
            | true => exact jt
            | false =>
              obtain ⟨r1, r2⟩ := readS_len l hT
              refine evSucc ?_
              simp only [lockkeeperlaw14_AllowAll.j0, Bool.false_eq_true, if_false]
              refine Ev.bind (read_ev l hT) (Ev.bind (rread14_ev l hT) (Ev.bind (allow_same _ _ _ (by omega) (by omega)) (evPos rfl (evPos rfl ?_))))
              refine Ev.bind (has_ev M H age s creds (by omega) (by omega)) (Ev.bind (rhas_ev M H age s creds (by omega) (by omega)) (evPos (by simp) ?_))
              exact evBind (cov_f M H age s creds (by omega) (by omega)) (Ev.bind (rcov_ev M H age s creds (by omega) (by omega)) (evPos (by simp) (Ev.bind awake14_ev (Ev.now _))))
end Go.Proofs.YtnbkfneolgeeeaaDoor.Pure
