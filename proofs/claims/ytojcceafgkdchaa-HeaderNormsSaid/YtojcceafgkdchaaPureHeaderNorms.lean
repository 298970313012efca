/- The printed law HeaderNorms tells true for every row of headers and every text (of the form's own reach). -/
import Derived.Test.YtojcceafgkdchaaP6
import Derived.Test.YtojcceafgkdchaaR1
import Derived.Test.YtojcceafgkdchaaPr24
import Derived.Test.YtojcceafgkdchaaPr23
namespace Go.Proofs.Ytojcceafgkdchaa.Pure
open Go.RowKit Go.Proofs.Ytojcceafgkdchaa.Pr Go.Proofs.YtojcceafgkdchaaW.PrintWords Go.Proofs.YtojcceafgkdchaaW.PrintLast
set_option linter.unusedVariables false
set_option linter.unusedSimpArgs false

theorem dropWhile_idem (l : Bs) : (l.dropWhile isBl).dropWhile isBl = l.dropWhile isBl := by
  induction l with
  | nil => rfl
  | cons c l ih =>
    cases h : isBl c with
    | true => simp [h, ih]
    | false => simp [h]
theorem dropWhile_last (xs : Bs) (c : UInt8) (h : isBl c = false) : (xs ++ [c]).dropWhile isBl = xs.dropWhile isBl ++ [c] := by
  induction xs with
  | nil => simp [h]
  | cons x xs ih =>
    cases hx : isBl x with
    | true => simpa [hx] using ih
    | false => simp [hx]
theorem dropWhile_head (l : Bs) : l.dropWhile isBl = [] ∨ ∃ c m, l.dropWhile isBl = c :: m ∧ isBl c = false := by
  induction l with
  | nil => exact .inl rfl
  | cons c l ih =>
    cases h : isBl c with
    | true => simpa [h] using ih
    | false => exact .inr ⟨c, l, by simp [h], h⟩
theorem trimL_idem (l : Bs) : trimL (trimL l) = trimL l := by
  unfold trimL
  have h1 : (trimR (l.dropWhile isBl)).dropWhile isBl = trimR (l.dropWhile isBl) := by
    rcases dropWhile_head l with h | ⟨c, m, h, hc⟩
    · rw [h]; rfl
    · rw [h]
      unfold trimR
      rw [List.reverse_cons, dropWhile_last _ _ hc, List.reverse_append]
      simp [hc]
  rw [h1]
  unfold trimR
  rw [List.reverse_reverse, dropWhile_idem]
theorem trimS_idem (s : ByteArray) : trimS (trimS s) = trimS s := by
  unfold trimS
  rw [bsOf_data, trimL_idem]

def normH (h : Hd) : Hd := ⟨lowB h.f0, trimS h.f1⟩
def normS (l : List Hd) : List Hd := l.map normH
theorem normH_idem (h : Hd) : normH (normH h) = normH h := by
  unfold normH
  rw [lowB_idem, trimS_idem]
theorem normS_idem (l : List Hd) : normS (normS l) = normS l := by
  unfold normS
  rw [List.map_map]
  exact List.map_congr_left fun h _ => normH_idem h
theorem normS_ok {l : List Hd} (hl : HOk l) : HOk (normS l) := by
  refine ⟨by simpa [normS] using hl.1, fun x hx => ?_⟩
  obtain ⟨y, hy, rfl⟩ := List.mem_map.1 hx
  have := hl.2 y hy
  have ht := trimS_size y.f1
  exact ⟨by show (lowB y.f0).size ≤ _; rw [lowB_size]; omega, by show (trimS y.f1).size ≤ _; omega⟩
theorem norm_l0 (l : List Hd) (hl : HOk l) (r : List Hd) : ∀ p, p ++ r = l → Ev (fun k => header_Norm.l0 k (normS p) l (l.length : Int) (p.length : Int)) (normS l) := by
  have h1 := hl.1
  induction r with
  | nil =>
    intro p hp
    rw [List.append_nil] at hp
    subst hp
    refine evSucc ?_
    simp only [header_Norm.l0]
    exact evNeg (by omega) (Ev.now _)
  | cons h r ih =>
    intro p hp
    have hlen : l.length = p.length + (r.length + 1) := by rw [← hp]; simp
    have hh := hl.2 h (by rw [← hp]; simp)
    have hr : rd_T26 l (p.length : Int) = h := by rw [← hp]; exact rd_mid p h r
    have e2 : wrap64 ((p.length : Int) + 1) = ((p ++ [h]).length : Int) := by simp; unfold wrap64; omega
    refine evSucc ?_
    simp only [header_Norm.l0, hr, e2]
    refine evPos (by omega) (evPos (by omega) (evPos (by omega) (evBind (lower_f _ (by omega)) (Ev.bind (trim_ev _ (by omega)) (evPos (by simp [normS]; omega) ?_)))))
    have := ih (p ++ [h]) (by simpa using hp)
    rw [show normS (p ++ [h]) = normS p ++ [normH h] by simp [normS]] at this
    exact this
theorem norm_ev (l : List Hd) (hl : HOk l) : Ev (fun k => header_Norm.f k l) (normS l) := by
  have := norm_l0 l hl l [] rfl
  simpa [header_Norm.f, normS] using this
theorem same_l0 (l : List Hd) (hl : l.length ≤ 9223372036854775806) : ∀ n i, i + n = l.length → Ev (fun k => api_Header.l0 k l l (l.length : Int) (i : Int)) true := by
  intro n
  induction n with
  | zero =>
    intro i hi
    refine evSucc ?_
    simp only [api_Header.l0]
    exact evNeg (by omega) (Ev.now _)
  | succ n ih =>
    intro i hi
    have e2 : wrap64 ((i : Int) + 1) = ((i + 1 : Nat) : Int) := by unfold wrap64; omega
    refine evSucc ?_
    simp only [api_Header.l0, e2]
    exact evPos (by omega) (evPos (by omega) (evPos (by omega) (evPos (by omega) (evNeg (by simp) (ih (i + 1) (by omega))))))
theorem same_refl (l : List Hd) (hl : l.length ≤ 9223372036854775806) : Ev (fun k => api_Header.f k l l) true := by
  unfold api_Header.f
  exact evPos rfl (by simpa using same_l0 l hl l.length 0 (by omega))
theorem vals_norm (l : List Hd) (a : ByteArray) : vals (normS l) a = vals l a := by
  induction l with
  | nil => rfl
  | cons h l ih =>
    have e1 : normS (h :: l) = [normH h] ++ normS l := rfl
    rw [e1, vals_append, show h :: l = [h] ++ l from rfl, vals_append, ih]
    congr 1
    have hf : foldB (normH h).f0 a = foldB h.f0 a := by
      unfold foldB normH
      rw [lowB_data, lowL_idem]
    simp only [vals, List.filter_cons, List.filter_nil, hf]
    cases foldB h.f0 a with
    | true => simp [normH, trimS_idem]
    | false => rfl
theorem tok_all : ∀ n : Nat, n < 256 → isTok (lowC (UInt8.ofNat n)) = isTok (UInt8.ofNat n) := by decide +kernel
theorem tok_low (c : UInt8) : isTok (lowC c) = isTok c := by
  have := tok_all c.toNat c.toNat_lt
  rwa [UInt8.ofNat_toNat] at this
theorem tokS_low (s : ByteArray) : tokS (lowB s) = tokS s := by
  unfold tokS
  rw [lowB_data]
  unfold lowL
  congr 1
  · rw [List.all_map]
    congr 1
    funext c
    exact tok_low c
  · cases s.data.toList with
    | nil => rfl
    | cons c l => rfl
theorem good_norm (h : Hd) : goodH (normH h) = goodH h := by
  unfold goodH isHS normH
  rw [tokS_low, lowB_size, trimS_idem]
theorem check_norm (l : List Hd) : checkS (normS l) = checkS l := by
  unfold checkS
  have h1 : (normS l).all goodH = l.all goodH := by
    unfold normS
    rw [List.all_map]
    congr 1
    funext h
    exact good_norm h
  rw [h1, show (normS l).length = l.length by simp [normS]]
theorem names_norm (l : List Hd) : namesS (normS l) = namesS l := by
  unfold namesS normS
  rw [List.map_map]
  congr 1
  refine List.map_congr_left fun h _ => ?_
  exact lowB_idem h.f0

theorem HeaderNorms : ∀ (l0 : List (S26)) (a1 : ByteArray), (l0.length ≤ maxLen ∧ ∀ x_ ∈ l0, bT26 x_) → a1.size ≤ 140737488351232 → ∃ k, lockkeeperlaw6_HeaderNorms.f k l0 a1 = some true := by
  intro l a _ _
  refine Ev.rounds (g := fun k => lockkeeperlaw6_HeaderNorms.f k l a) ?_
  have jt : Ev (fun k => lockkeeperlaw6_HeaderNorms.j0 k l a true) true := by
    refine evSucc ?_
    simp only [lockkeeperlaw6_HeaderNorms.j0, if_true]
    exact Ev.bind awake6_ev (Ev.now _)
  unfold lockkeeperlaw6_HeaderNorms.f
  obtain ⟨b, hb, hB⟩ := great_ev l
  refine Ev.bind hb ?_
  cases b with
  | true => exact evPos rfl jt
  | false =>
    refine evNeg (by decide) (Ev.bind (long_ev 600 [a] (by omega) (by omega) (by simp)) ?_)
    cases hL : longS 600 [a] with
    | true => exact jt
    | false =>
      have s1 := longS_size _ _ hL a (by simp)
      have hl := (hB rfl).ok
      have hm := normS_ok hl
      have h1 := hl.1
      have h2 := hm.1
      have hn := namesS_length l
      have hg : getS (normS l) a = getS l a := by unfold getS; rw [vals_norm]
      refine evSucc ?_
      simp only [lockkeeperlaw6_HeaderNorms.j0, Bool.false_eq_true, if_false]
      refine Ev.bind (norm_ev l hl) (Ev.bind (get_ev l a hl (by omega)) (Ev.bind (evEq (get_ev _ a hm (by omega)) hg) (Ev.bind (evEq (norm_ev _ hm) (normS_idem l)) (Ev.bind (headers_refl _ (by omega)) (evPos rfl ?_)))))
      have same : Ev (fun k => header_Same.f k l (normS l)) true := by
        unfold header_Same.f
        exact Ev.bind (norm_ev l hl) (Ev.bind (evEq (norm_ev _ hm) (normS_idem l)) (Ev.bind (same_refl _ (by omega)) (Ev.now _)))
      refine Ev.bind same (evPos rfl (evPos rfl (evPos (by simp) (Ev.bind (check_ev l hl) (Ev.bind (evEq (check_ev _ hm) (check_norm l)) (evPos rfl ?_))))))
      exact Ev.bind (names_ev l hl) (Ev.bind (evEq (names_ev _ hm) (names_norm l)) (Ev.bind (texts_refl _ (by omega)) (evPos rfl (Ev.bind awake6_ev (Ev.now _)))))
end Go.Proofs.Ytojcceafgkdchaa.Pure
