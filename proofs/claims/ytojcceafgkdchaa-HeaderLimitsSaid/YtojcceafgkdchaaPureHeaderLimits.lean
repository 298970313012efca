/- The printed law HeaderLimits tells true for every three whole numbers (of the form's own reach). -/
import Derived.Test.YtojcceafgkdchaaP6
import Derived.Test.YtojcceafgkdchaaPr15
import Derived.Test.YtojcceafgkdchaaPr5
namespace Go.Proofs.Ytojcceafgkdchaa.Pure
open Go.RowKit Go.Proofs.Ytojcceafgkdchaa.Pr Go.Proofs.YtojcceafgkdchaaW.PrintWords Go.Proofs.YtojcceafgkdchaaW.PrintLast
set_option linter.unusedVariables false
set_option linter.unusedSimpArgs false

theorem tok_rep (n : Nat) : tokS (repS n 110) = decide (1 ≤ n) := by
  unfold tokS
  rw [repS_data]
  have h1 : (List.replicate n (110 : UInt8)).all isTok = true := by
    rw [List.all_eq_true]
    intro x hx
    rw [List.eq_of_mem_replicate hx]
    decide +kernel
  rw [h1, Bool.true_and]
  cases n with
  | zero => rfl
  | succ n => simp [List.replicate_succ]
theorem line_rep (n : Nat) : hasLine (repS n 118) = false := by
  unfold hasLine
  rw [repS_data]
  have : Lib.indexAny (List.replicate n (118 : UInt8)) (⟨#[0, 10, 13]⟩ : ByteArray).data.toList = -1 := by
    refine Lib.indexAny_none fun j b hj hb => ?_
    have := List.mem_of_getElem? hb
    rw [List.eq_of_mem_replicate this]
    decide
  rw [this]
  rfl
theorem good_rep (a b : Nat) : isHS (repS a 110) (repS b 118) = decide (1 ≤ a ∧ a ≤ 64 ∧ b ≤ 4096) := by
  unfold isHS
  rw [tok_rep, trimS_rep b 118 (by decide), line_rep, repS_size, repS_size]
  by_cases h1 : 1 ≤ a
  · by_cases h2 : a ≤ 64
    · by_cases h3 : b ≤ 4096
      · rw [if_pos (by simpa using h1), if_pos (by omega), if_pos (by omega)]; simp [h1, h2, h3]
      · rw [if_pos (by simpa using h1), if_pos (by omega), if_neg (by omega)]; simp [h1, h2, h3]
    · rw [if_pos (by simpa using h1), if_neg (by omega)]; simp [h1, h2]
  · rw [if_neg (by simpa using h1)]; simp [h1]
def hN : Hd := ⟨⟨#[110]⟩, ⟨#[]⟩⟩
theorem hN_good : goodH hN = true := by decide +kernel

theorem HeaderLimits_end (n a b : Nat) (hn : n < 40) (ha : a < 70) (hb : b < 4200) : Ev (fun k => lockkeeperlaw6_HeaderLimits.l0 k (n : Int) (a : Int) (b : Int) (List.replicate n hN) (n : Int)) true := by
  have ok1 : HOk [(⟨repS a 110, repS b 118⟩ : Hd)] := by
    refine ⟨by simp, fun x hx => ?_⟩
    rw [List.mem_singleton.1 hx]
    exact ⟨by show (repS a 110).size ≤ _; rw [repS_size]; omega, by show (repS b 118).size ≤ _; rw [repS_size]; omega⟩
  have ok2 : HOk (List.replicate n hN) := by
    refine ⟨by simp; omega, fun x hx => ?_⟩
    rw [List.eq_of_mem_replicate hx]
    exact ⟨by decide, by decide⟩
  have c1 : checkS [(⟨repS a 110, repS b 118⟩ : Hd)] = if 1 ≤ a ∧ a ≤ 64 ∧ b ≤ 4096 then 0 else 6 := by
    unfold checkS
    rw [if_neg (by simp)]
    simp only [List.all_cons, List.all_nil, Bool.and_true, goodH, good_rep, decide_eq_true_eq]
  have c2 : checkS (List.replicate n hN) = if n ≤ 32 then 0 else 4 := by
    unfold checkS
    have h1 : (List.replicate n hN).all goodH = true := by
      rw [List.all_eq_true]
      intro x hx
      rw [List.eq_of_mem_replicate hx]
      exact hN_good
    rw [h1, List.length_replicate]
    by_cases h : n ≤ 32
    · rw [if_neg (by omega), if_pos rfl, if_pos h]
    · rw [if_pos (by omega), if_neg h]
  have e1 := check_ev _ ok1
  have e2 := check_ev _ ok2
  rw [c1] at e1
  rw [c2] at e2
  have aw := awake6_ev
  refine evSucc ?_
  simp only [lockkeeperlaw6_HeaderLimits.l0]
  refine evNeg (by omega) (Ev.bind (text_ev a 110 (by omega)) (Ev.bind (text_ev b 118 (by omega)) (Ev.bind e1 (Ev.bind e2 ?_))))
  have i1 : ((a : Int) ≥ 1) ↔ 1 ≤ a := by omega
  have i2 : ((a : Int) ≤ 64) ↔ a ≤ 64 := by omega
  have i3 : ((b : Int) ≤ 4096) ↔ b ≤ 4096 := by omega
  have i4 : ((n : Int) ≤ 32) ↔ n ≤ 32 := by omega
  by_cases h4 : n ≤ 32
  · by_cases h1 : 1 ≤ a <;> by_cases h2 : a ≤ 64 <;> by_cases h3 : b ≤ 4096 <;> simp [i1, i2, i3, i4, h1, h2, h3, h4] <;> exact aw
  · have e2' : Ev (fun k => header_Check.f k (List.replicate n hN)) 4 := evEq e2 (by rw [if_neg h4])
    refine evPos (by simp [h4]; omega) (evNeg (by omega) (Ev.bind e2' (evPos rfl ?_)))
    by_cases h1 : 1 ≤ a <;> by_cases h2 : a ≤ 64 <;> by_cases h3 : b ≤ 4096 <;> simp [i1, i2, i3, i4, h1, h2, h3, h4] <;> exact aw
theorem HeaderLimits_l0 (n a b : Nat) (hn : n < 40) (ha : a < 70) (hb : b < 4200) : ∀ m i, i + m = n → Ev (fun k => lockkeeperlaw6_HeaderLimits.l0 k (n : Int) (a : Int) (b : Int) (List.replicate i hN) (i : Int)) true := by
  intro m
  induction m with
  | zero =>
    intro i hi
    have : i = n := by omega
    rw [this]
    exact HeaderLimits_end n a b hn ha hb
  | succ m ih =>
    intro i hi
    have e2 : wrap64 ((i : Int) + 1) = ((i + 1 : Nat) : Int) := by unfold wrap64; omega
    refine evSucc ?_
    simp only [lockkeeperlaw6_HeaderLimits.l0, e2]
    refine evPos (by omega) (evPos (by simp; omega) ?_)
    have := ih (i + 1) (by omega)
    rw [List.replicate_succ'] at this
    exact this

theorem HeaderLimits : lockkeeperlaw6_HeaderLimits.Pure := by
  intro a0 a1 a2 w0 w1 w2
  refine Ev.rounds (g := fun k => lockkeeperlaw6_HeaderLimits.f k a0 a1 a2) ?_
  unfold lockkeeperlaw6_HeaderLimits.f
  obtain ⟨n, hn, n0, n1⟩ := low_f a0 40 w0 (by omega) (by omega)
  obtain ⟨a, ha, a0', a1'⟩ := low_f a1 70 w1 (by omega) (by omega)
  obtain ⟨d, hd, d0, d1⟩ := low_f a2 200 w2 (by omega) (by omega)
  obtain ⟨n, rfl⟩ := Int.eq_ofNat_of_zero_le n0
  obtain ⟨a, rfl⟩ := Int.eq_ofNat_of_zero_le a0'
  obtain ⟨d, rfl⟩ := Int.eq_ofNat_of_zero_le d0
  refine evBind hn (evBind ha (evBind hd ?_))
  have e : wrap64 (4000 + (d : Int)) = ((4000 + d : Nat) : Int) := by unfold wrap64; omega
  rw [e]
  have := HeaderLimits_l0 n a (4000 + d) (by omega) (by omega) (by omega) n 0 (by omega)
  simpa using this
end Go.Proofs.Ytojcceafgkdchaa.Pure
