/- The printed law OctetTrims tells true for every text and every two rows of numbers (of the form's own reach). -/
import Derived.Test.YtojcceafgkdchaaDoorD2
import Derived.Test.YtojcceafgkdchaaDoorPr11
namespace Go.Proofs.YtojcceafgkdchaaDoor.Pure
open Go.RowKit Go.Proofs.YtojcceafgkdchaaDoor.Pr Go.Proofs.YtojcceafgkdchaaDoorW.PrintWords Go.Proofs.YtojcceafgkdchaaDoorW.PrintLast
set_option linter.unusedVariables false
set_option linter.unusedSimpArgs false

theorem dropWhile_idem (l : Bs) : (l.dropWhile isBl).dropWhile isBl = l.dropWhile isBl := by
  induction l with
  | nil => rfl
  | cons c l ih =>
    cases h : isBl c with
    | true => simp [h, ih]
    | false => simp [h]
theorem dropWhile_last (xs : Bs) (c : UInt8) (h : isBl c = false) : (xs ++ [c]).dropWhile isBl = xs.dropWhile isBl ++ [c] := by
  induction xs with
  | nil => simp [h]
  | cons x xs ih =>
    cases hx : isBl x with
    | true => simpa [hx] using ih
    | false => simp [hx]
theorem dropWhile_head (l : Bs) : l.dropWhile isBl = [] ∨ ∃ c m, l.dropWhile isBl = c :: m ∧ isBl c = false := by
  induction l with
  | nil => exact .inl rfl
  | cons c l ih =>
    cases h : isBl c with
    | true => simpa [h] using ih
    | false => exact .inr ⟨c, l, by simp [h], h⟩
theorem trimL_idem (l : Bs) : trimL (trimL l) = trimL l := by
  unfold trimL
  have h1 : (trimR (l.dropWhile isBl)).dropWhile isBl = trimR (l.dropWhile isBl) := by
    rcases dropWhile_head l with h | ⟨c, m, h, hc⟩
    · rw [h]; rfl
    · rw [h]
      unfold trimR
      rw [List.reverse_cons, dropWhile_last _ _ hc, List.reverse_append]
      simp [hc]
  rw [h1]
  unfold trimR
  rw [List.reverse_reverse, dropWhile_idem]
theorem trimS_idem (s : ByteArray) : trimS (trimS s) = trimS s := by
  unfold trimS
  rw [bsOf_data, trimL_idem]

def Bls (P : Bs) : Prop := ∀ c ∈ P, isBl c = true
theorem dropBls (P m : Bs) (h : Bls P) : (P ++ m).dropWhile isBl = m.dropWhile isBl := by
  induction P with
  | nil => rfl
  | cons c P ih =>
    rw [List.cons_append, List.dropWhile_cons, if_pos (h c (by simp))]
    exact ih fun d hd => h d (by simp [hd])
theorem trim_pre (P m : Bs) (h : Bls P) : trimL (P ++ m) = trimL m := by
  unfold trimL
  rw [dropBls P m h]
theorem trimR_post (m Q : Bs) (h : Bls Q) : trimR (m ++ Q) = trimR m := by
  unfold trimR
  rw [List.reverse_append, dropBls _ _ (fun c hc => h c (by simpa using hc))]
theorem trim_post (m Q : Bs) (h : Bls Q) : trimL (m ++ Q) = trimL m := by
  have key : (m ++ Q).dropWhile isBl = m.dropWhile isBl ++ Q ∨ ((m ++ Q).dropWhile isBl = [] ∧ m.dropWhile isBl = []) := by
    induction m with
    | nil =>
      right
      refine ⟨?_, rfl⟩
      have := dropBls Q [] h
      simpa using this
    | cons c m ih =>
      rw [List.cons_append, List.dropWhile_cons, List.dropWhile_cons]
      by_cases hc : isBl c = true
      · rw [if_pos hc, if_pos hc]; exact ih
      · rw [if_neg hc, if_neg hc]; exact .inl rfl
  unfold trimL
  rcases key with e | ⟨e1, e2⟩
  · rw [e, trimR_post _ _ h]
  · rw [e1, e2]
theorem trim_bls (P : Bs) (h : Bls P) : trimL P = [] := by
  have := trim_pre P [] h
  rw [List.append_nil] at this
  rw [this]
  rfl
theorem blank_of (a : Int) (ha : (Lit.int .i64 a).wf = true) : ∃ c, isBl c = true ∧ lockkeeperlaw1_OctetTrims_1.f a = some (bsOf [c]) := by
  obtain ⟨r, hr, r0, r4⟩ := low_f a 4 ha (by omega) (by omega)
  unfold lockkeeperlaw1_OctetTrims_1.f
  rw [hr]
  simp only [Option.bind_some]
  rw [if_pos r0, if_pos r4]
  have h4 : r = 0 ∨ r = 1 ∨ r = 2 ∨ r = 3 := by omega
  rcases h4 with rfl | rfl | rfl | rfl
  · exact ⟨9, by decide, rfl⟩
  · exact ⟨10, by decide, rfl⟩
  · exact ⟨13, by decide, rfl⟩
  · exact ⟨32, by decide, rfl⟩
theorem rd_at (l : List Int) (i : Nat) (h : i < l.length) : rd l (i : Int) = l[i] := by simp [rd, List.getD_eq_getElem?_getD, h]
theorem bls_snoc {P : Bs} {c : UInt8} (h : Bls P) (hc : isBl c = true) : Bls (P ++ [c]) := by
  intro d hd
  rcases List.mem_append.1 hd with hd | hd
  · exact h d hd
  · rw [List.mem_singleton.1 hd]; exact hc
theorem OctetTrims_l1 (s : ByteArray) (hs : s.size < 2000) (b : List Int) (hb : b.length ≤ 20) (hw : ∀ x ∈ b, (Lit.int .i64 x).wf = true) (P : Bs) (hP : Bls P) (hp : P.length ≤ 20) : ∀ n i (Q : Bs), i + n = b.length → Q.length = i → Bls Q →
    Ev (fun k => lockkeeperlaw1_OctetTrims.l1 k s b (bsOf P) (bsOf Q) (i : Int)) true := by
  intro n
  induction n with
  | zero =>
    intro i Q hi hq hQ
    have e1 : (bsOf P ++ s).size = P.length + s.size := by rw [ByteArray.size_append, size_bsOf]
    have e2 : (bsOf P ++ s ++ bsOf Q).size = P.length + s.size + Q.length := by rw [ByteArray.size_append, e1, size_bsOf]
    have e3 : (bsOf P ++ bsOf Q).size = P.length + Q.length := by rw [ByteArray.size_append, size_bsOf, size_bsOf]
    have e4 := size_bsOf P
    have e5 := size_bsOf Q
    have ht := trimS_size s
    have f1 : trimS (bsOf P ++ s ++ bsOf Q) = trimS s := by
      unfold trimS
      rw [append_list, append_list, bsOf_data, bsOf_data, trim_post _ _ hQ, trim_pre _ _ hP]
    have f2 : trimS (bsOf P ++ bsOf Q) = bsOf [] := by
      unfold trimS
      rw [append_list, bsOf_data, bsOf_data, trim_post _ _ hQ, trim_bls _ hP]
    refine evSucc ?_
    simp only [lockkeeperlaw1_OctetTrims.l1]
    refine evNeg (by omega) (Ev.bind (trim_ev s (by omega)) (evPos (by omega) (evPos (by omega) (Ev.bind (evEq (trim_ev _ (by omega)) f1) (evPos rfl ?_)))))
    refine Ev.bind (evEq (trim_ev _ (by omega)) (trimS_idem s)) (evPos rfl (evPos (by omega) (Ev.bind (evEq (trim_ev _ (by omega)) f2) (evPos (by rw [tl]; rfl) (Ev.bind awake1_ev (Ev.now _))))))
  | succ n ih =>
    intro i Q hi hq hQ
    have hlt : i < b.length := by omega
    have e2 : wrap64 ((i : Int) + 1) = ((i + 1 : Nat) : Int) := by unfold wrap64; omega
    obtain ⟨c, hc, hf⟩ := blank_of _ (hw _ (List.getElem_mem hlt))
    have ih' := ih (i + 1) (Q ++ [c]) (by omega) (by simp; omega) (bls_snoc hQ hc)
    have e3 : bsOf Q ++ bsOf [c] = bsOf (Q ++ [c]) := ba_ext (by rw [append_list]; rfl)
    have e5 := size_bsOf Q
    have e6 : (bsOf [c]).size = 1 := rfl
    refine evSucc ?_
    simp only [lockkeeperlaw1_OctetTrims.l1, e2]
    rw [rd_at _ _ hlt]
    refine evPos (by omega) (evPos (by omega) (evBind hf (evPos (by omega) ?_)))
    rw [e3]
    exact ih'
theorem OctetTrims_l0 (s : ByteArray) (hs : s.size < 2000) (a b : List Int) (ha : a.length ≤ 20) (hb : b.length ≤ 20) (hv : ∀ x ∈ a, (Lit.int .i64 x).wf = true) (hw : ∀ x ∈ b, (Lit.int .i64 x).wf = true) : ∀ n i (P : Bs), i + n = a.length → P.length = i → Bls P →
    Ev (fun k => lockkeeperlaw1_OctetTrims.l0 k s a b (bsOf P) (⟨#[]⟩ : ByteArray) (i : Int)) true := by
  intro n
  induction n with
  | zero =>
    intro i P hi hp hP
    refine evSucc ?_
    simp only [lockkeeperlaw1_OctetTrims.l0]
    exact evNeg (by omega) (OctetTrims_l1 s hs b hb hw P hP (by omega) b.length 0 [] (by omega) rfl (by intro c hc; cases hc))
  | succ n ih =>
    intro i P hi hp hP
    have hlt : i < a.length := by omega
    have e2 : wrap64 ((i : Int) + 1) = ((i + 1 : Nat) : Int) := by unfold wrap64; omega
    obtain ⟨c, hc, hf⟩ := blank_of _ (hv _ (List.getElem_mem hlt))
    have ih' := ih (i + 1) (P ++ [c]) (by omega) (by simp; omega) (bls_snoc hP hc)
    have e3 : bsOf P ++ bsOf [c] = bsOf (P ++ [c]) := ba_ext (by rw [append_list]; rfl)
    have e5 := size_bsOf P
    have e6 : (bsOf [c]).size = 1 := rfl
    refine evSucc ?_
    simp only [lockkeeperlaw1_OctetTrims.l0, e2]
    rw [rd_at _ _ hlt]
    refine evPos (by omega) (evPos (by omega) (evBind hf (evPos (by omega) ?_)))
    rw [e3]
    exact ih'
theorem OctetTrims : ∀ (a0 : ByteArray) (l1 : List (Int)) (l2 : List (Int)), a0.size ≤ 140737488351232 → (l1.length ≤ maxLen ∧ ∀ x_ ∈ l1, (Lit.int .i64 x_).wf = true) → (l2.length ≤ maxLen ∧ ∀ x_ ∈ l2, (Lit.int .i64 x_).wf = true) → ∃ k, lockkeeperlaw1_OctetTrims.f k a0 l1 l2 = some true := by
  intro s a b h0 h1 h2
  refine Ev.rounds (g := fun k => lockkeeperlaw1_OctetTrims.f k s a b) ?_
  have jt : Ev (fun k => lockkeeperlaw1_OctetTrims.j0 k s a b true) true := by
    refine evSucc ?_
    simp only [lockkeeperlaw1_OctetTrims.j0, if_true]
    exact Ev.bind awake1_ev (Ev.now _)
  unfold lockkeeperlaw1_OctetTrims.f
  refine Ev.bind (long_ev 2000 [s] (by omega) (by omega) (by simp)) ?_
  cases hL : longS 2000 [s] with
  | true => exact evPos rfl jt
  | false =>
    have hs := longS_size _ _ hL s (by simp)
    refine evNeg (by decide) ?_
    by_cases ha : (a.length : Int) > 20
    · exact evPos ha jt
    · refine evNeg ha ?_
      by_cases hb : (b.length : Int) > 20
      · rw [decide_eq_true hb]; exact jt
      · rw [decide_eq_false hb]
        refine evSucc ?_
        simp only [lockkeeperlaw1_OctetTrims.j0, Bool.false_eq_true, if_false]
        exact OctetTrims_l0 s (by omega) a b (by omega) (by omega) h1.2 h2.2 a.length 0 [] (by omega) rfl (by intro c hc; cases hc)
end Go.Proofs.YtojcceafgkdchaaDoor.Pure
