/- The printed law SafeNames tells true for every row of headers and every mask (of the form's own reach). -/
import Derived.Test.YtojcceafgkdchaaP5
import Derived.Test.YtojcceafgkdchaaR1
import Derived.Test.YtojcceafgkdchaaPr20
namespace Go.Proofs.Ytojcceafgkdchaa.Pure
open Go.RowKit Go.Proofs.Ytojcceafgkdchaa.Pr Go.Proofs.YtojcceafgkdchaaW.PrintWords Go.Proofs.YtojcceafgkdchaaW.PrintLast
set_option linter.unusedVariables false
set_option linter.unusedSimpArgs false

theorem snames_rise (l : List Hd) : snames l = riseB (if (totalN l : Int) > 1024 then unsafeN l ++ safeN l else unsafeN l) := by
  unfold snames
  split <;> rfl
theorem snames_sublist (l : List Hd) : (snames l).Sublist (namesS l) := by
  rw [snames_rise]
  refine riseB_sublist fun x hx => ?_
  have h1 : x ∈ snames l := by rw [snames_rise]; exact (riseB_mem _ _).2 hx
  exact (riseB_mem _ _).1 (snames_sub l x h1)
theorem snames_less (l : List Hd) (i : Nat) (h : i + 1 < (snames l).length) : Op.bytesLess ((rdOf ByteArray.empty (snames l) (i : Int)).toList) ((rdOf ByteArray.empty (snames l) ((i + 1 : Nat) : Int)).toList) = true := by
  rw [snames_rise] at h ⊢
  exact less_next _ i h
theorem drop_cons {l : List ByteArray} {i : Nat} (h : i < l.length) : l.drop i = l[i] :: l.drop (i + 1) := List.drop_eq_getElem_cons h

theorem sub_ne {a b : ByteArray} {l m : List ByteArray} (h : (a :: l).Sublist (b :: m)) (hne : a ≠ b) : (a :: l).Sublist m := by
  cases h with
  | cons _ h => exact h
  | cons_cons _ h => exact absurd rfl hne
theorem SafeNames_l1 (l : List Hd) (a : Int) (A B : List ByteArray) (hA : A.length ≤ 1000) (hB : B.length ≤ 1000)
  (hless : ∀ i, i + 1 < A.length → Op.bytesLess ((rdOf ByteArray.empty A (i : Int)).toList) ((rdOf ByteArray.empty A ((i + 1 : Nat) : Int)).toList) = true) (i : Nat) (hi : i < A.length) (H : ∀ j, j ≤ B.length → (A.drop (i + 1)).Sublist (B.drop j) → Ev (fun k => lockkeeperlaw7_SafeNames.l0 k l a A B (j : Int) ((i + 1 : Nat) : Int)) true) :
    ∀ n j, j + n = B.length → (A.drop i).Sublist (B.drop j) → Ev (fun k => lockkeeperlaw7_SafeNames.l1 k l a A B (j : Int) (i : Int)) true := by
  intro n
  induction n with
  | zero =>
    intro j hj hs
    rw [drop_cons hi, List.drop_of_length_le (l := B) (i := j) (by omega)] at hs
    simp at hs
    omega
  | succ n ih =>
    intro j hj hs
    have hlt : j < B.length := by omega
    have e2 : wrap64 ((i : Int) + 1) = ((i + 1 : Nat) : Int) := by unfold wrap64; omega
    have e3 : wrap64 ((j : Int) + 1) = ((j + 1 : Nat) : Int) := by unfold wrap64; omega
    refine evSucc ?_
    simp only [lockkeeperlaw7_SafeNames.l1, e2, e3]
    refine evPos (by omega) (evPos (by omega) (evPos (by omega) (evPos (by omega) ?_)))
    have hs' := hs
    rw [drop_cons hi, drop_cons hlt] at hs'
    by_cases he : (rdOf ByteArray.empty B (j : Int)).toList = (rdOf ByteArray.empty A (i : Int)).toList
    · refine evPos he (evNeg (by omega) ?_)
      have go := H j (by omega) (by
        rw [drop_cons hi] at hs
        exact (List.sublist_cons_self _ _).trans hs)
      rcases Nat.eq_zero_or_pos i with h0 | h0
      · exact evNeg (by omega) go
      · have e1 : wrap64 ((i : Int) - 1) = ((i - 1 : Nat) : Int) := by unfold wrap64; omega
        have hl := hless (i - 1) (by omega)
        rw [show i - 1 + 1 = i by omega] at hl
        rw [e1]
        exact evPos (by omega) (evPos (by omega) (evPos (by omega) (evPos hl go)))
    · refine evNeg he (ih (j + 1) (by omega) ?_)
      rw [drop_cons hi]
      have hne : A[i] ≠ B[j] := by
        rw [rdOf_get _ _ hlt, rdOf_get _ _ hi, tl_eq] at he
        exact fun h => he h.symm
      exact sub_ne hs' hne

def sOwn : ByteArray := (⟨#[120, 45, 111, 119, 110]⟩ : ByteArray)
theorem own_unsafe (n : ByteArray) (h : lowB n = sOwn) (v : ByteArray) : hsafe ⟨n, v⟩ = false := by
  have e : (lowB n).toList = ([120, 45, 111, 119, 110] : List UInt8) := by rw [h, tl]; rfl
  simp [hsafe, safeS, jointS, e]

theorem SafeNames_l2 (A : List ByteArray) (B : List ByteArray) (hB : B.length ≤ 1000) (hle : A.length ≤ B.length) : ∀ n j (b : Bool), j + n = B.length → (b = true ∨ sOwn ∈ B.drop j) → Ev (fun k => lockkeeperlaw7_SafeNames.l2 k A B b (j : Int)) true := by
  intro n
  induction n with
  | zero =>
    intro j b hj hb
    rw [List.drop_of_length_le (by omega)] at hb
    have hb' : b = true := hb.resolve_right (by simp)
    refine evSucc ?_
    simp only [lockkeeperlaw7_SafeNames.l2]
    exact evNeg (by omega) (evPos hb' (evPos (by omega) (Ev.bind awake7_ev (Ev.now _))))
  | succ n ih =>
    intro j b hj hb
    have hlt : j < B.length := by omega
    have e3 : wrap64 ((j : Int) + 1) = ((j + 1 : Nat) : Int) := by unfold wrap64; omega
    refine evSucc ?_
    simp only [lockkeeperlaw7_SafeNames.l2, e3]
    refine evPos (by omega) ?_
    cases b with
    | true => exact evPos rfl (ih (j + 1) true (by omega) (.inl rfl))
    | false =>
      refine evNeg (by decide) (evPos (by omega) (ih (j + 1) _ (by omega) ?_))
      have hm := hb.resolve_left (by decide)
      rw [drop_cons hlt] at hm
      rcases List.mem_cons.1 hm with e | e
      · left
        rw [rdOf_get _ _ hlt, ← e, tl]
        rfl
      · exact .inr e

theorem SafeNames : ∀ (l0 : List (S26)) (a1 : Int), (l0.length ≤ maxLen ∧ ∀ x_ ∈ l0, bT26 x_) → (Lit.int .u64 a1).wf = true → ∃ k, lockkeeperlaw7_SafeNames.f k l0 a1 = some true := by
  intro l a _ ha
  refine Ev.rounds (g := fun k => lockkeeperlaw7_SafeNames.f k l a) ?_
  unfold lockkeeperlaw7_SafeNames.f
  obtain ⟨b, hb, hB⟩ := great_ev l
  refine Ev.bind hb ?_
  cases b with
  | true => exact evPos rfl (Ev.bind awake7_ev (Ev.now _))
  | false =>
    have hs := hB rfl
    have hl := hs.ok
    have h40 := hs.1
    refine evNeg (by decide) (Ev.bind (snames_ev l hl) (Ev.bind (names_ev l hl) ?_))
    have hA := snames_length l
    have hN := namesS_length l
    have hend : ∀ j : Nat, Ev (fun k => lockkeeperlaw7_SafeNames.l0 k l a (snames l) (namesS l) (j : Int) ((snames l).length : Int)) true := by
      intro j
      refine evSucc ?_
      simp only [lockkeeperlaw7_SafeNames.l0]
      have hf := flip_f sOwn a (by decide) ha
      refine evNeg (by omega) (evPos (by simp; omega) (evBind rfl (evBind hf (evPos (by simp; omega) ?_))))
      rw [List.nil_append]
      have hfs := flip_size sOwn a
      have h5 : sOwn.size = 5 := rfl
      have hl' : HOk (l ++ [⟨flipS sOwn a, (⟨#[49]⟩ : ByteArray)⟩]) := by
        refine ⟨by simp; omega, fun x hx => ?_⟩
        rcases List.mem_append.1 hx with hx | hx
        · exact hl.2 x hx
        · rw [List.mem_singleton.1 hx]
          exact ⟨by show (flipS sOwn a).size ≤ _; omega, by show (1 : Nat) ≤ _; omega⟩
      refine Ev.bind (snames_ev _ hl') ?_
      have hlow : lowB (flipS sOwn a) = sOwn := by rw [flip_lowB]; rfl
      have hun := own_unsafe _ hlow (⟨#[49]⟩ : ByteArray)
      have e1 : unsafeN (l ++ [⟨flipS sOwn a, (⟨#[49]⟩ : ByteArray)⟩]) = unsafeN l ++ [sOwn] := by
        rw [unsafeN_append]
        simp [unsafeN, lowN, hun, hlow]
      have e2 : safeN (l ++ [⟨flipS sOwn a, (⟨#[49]⟩ : ByteArray)⟩]) = safeN l := by
        rw [safeN_append]
        simp [safeN, lowN, hun]
      have e3 : totalN (l ++ [⟨flipS sOwn a, (⟨#[49]⟩ : ByteArray)⟩]) = totalN l := by
        rw [totalN_append]
        simp [totalN, hun]
      have hlen := snames_length (l ++ [⟨flipS sOwn a, (⟨#[49]⟩ : ByteArray)⟩])
      rw [List.length_append, List.length_singleton] at hlen
      have hle : (snames l).length ≤ (snames (l ++ [⟨flipS sOwn a, (⟨#[49]⟩ : ByteArray)⟩])).length := by
        rw [snames_rise, snames_rise, e1, e2, e3]
        refine (riseB_sublist fun x hx => ?_).length_le
        by_cases hg : (totalN l : Int) > 1024
        · rw [if_pos hg] at hx ⊢
          simp only [List.mem_append] at hx ⊢
          rcases hx with hx | hx
          · exact .inl (.inl hx)
          · exact .inr hx
        · rw [if_neg hg] at hx ⊢
          exact List.mem_append_left _ hx
      have hmem : sOwn ∈ snames (l ++ [⟨flipS sOwn a, (⟨#[49]⟩ : ByteArray)⟩]) := by
        rw [snames_rise, e1, e2, e3, riseB_mem]
        split
        · simp
        · simp
      have := SafeNames_l2 (snames l) (snames (l ++ [⟨flipS sOwn a, (⟨#[49]⟩ : ByteArray)⟩])) (by omega) hle (snames (l ++ [⟨flipS sOwn a, (⟨#[49]⟩ : ByteArray)⟩])).length 0 false (by omega) (.inr (by simpa using hmem))
      simpa using this
    have main : ∀ n i j, i + n = (snames l).length → j ≤ (namesS l).length → ((snames l).drop i).Sublist ((namesS l).drop j) → Ev (fun k => lockkeeperlaw7_SafeNames.l0 k l a (snames l) (namesS l) (j : Int) (i : Int)) true := by
      intro n
      induction n with
      | zero =>
        intro i j hi _ _
        have : i = (snames l).length := by omega
        rw [this]
        exact hend j
      | succ n ih =>
        intro i j hi hj hsub
        refine evSucc ?_
        simp only [lockkeeperlaw7_SafeNames.l0]
        refine evPos (by omega) ?_
        exact SafeNames_l1 l a (snames l) (namesS l) (by omega) (by omega) (snames_less l) i (by omega) (fun j hj hs => ih (i + 1) j (by omega) hj hs) ((namesS l).length - j) j (by omega) hsub
    have := main (snames l).length 0 0 (by omega) (by omega) (by simpa using snames_sublist l)
    simpa using this
end Go.Proofs.Ytojcceafgkdchaa.Pure
